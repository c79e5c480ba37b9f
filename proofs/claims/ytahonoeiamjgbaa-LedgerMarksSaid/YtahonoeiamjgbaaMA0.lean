/- Several texts in one, in build order: LgMaps, Pk, PkTake, Join, PkList, PkBack, Gx0, Gx1, Gx2, Gx, PkH, Nm, NameWalk, Tab, CdForm, LgKeyP, LgLocks, CdStep, CdKeys. -/
import Derived.Maps.Own
import Derived.Maps.OwnOps
import Derived.Maps.OwnSet
import Derived.Maps.Views
import Derived.Maps.RangeWalk
import Derived.Test.YtahonoeiamjgbaaWMore
import Derived.Laws.BytesArg
import Derived.Laws.BitsLemmas
import Derived.IntWalk
import Derived.Test.YtahonoeiamjgbaaShelf
import Derived.WalkKit
import Derived.KernelRfl
import Derived.Test.YtahonoeiamjgbaaProg
import Derived.Below
import Derived.Deep.Draws
import Derived.Deep.AppendLies
import Derived.Maps.AppendAt
import Derived.OwnWalk
import Derived.Laws.MakeOwn
import Derived.Laws.OwnMore
import Derived.Deep.OwnRows
import Derived.Tactics
import Derived.Lib.ConvBytes
import Derived.Laws.Slices
import Derived.RowKit3
import Derived.Deep.LoopGhost
import Derived.Deep.QuietTactic
import Derived.BigQuiet
import Derived.WideLaws
import Derived.Deep.DeepCutAuto
import Derived.Deep.CutBlock
import Derived.Deep.RegionHeld3
import Derived.Laws.Rows
import Derived.Lib.AppendStr
import Derived.ArgAppend
import Derived.Laws.IdiomCopy
import Derived.OrdersHeld
import Derived.RowKit
import Derived.Test.YtahonoeiamjgbaaWWords
import Derived.Test.YtahonoeiamjgbaaWLast
import Derived.Test.YtahonoeiamjgbaaWTab
import Derived.Test.YtahonoeiamjgbaaWFour
import Derived.Test.YtahonoeiamjgbaaWQPut
import Derived.Test.YtahonoeiamjgbaaWApart
import Derived.Test.YtahonoeiamjgbaaWArr
import Derived.Test.YtahonoeiamjgbaaWZeros
import Derived.Test.YtahonoeiamjgbaaWFoot
import Derived.Test.YtahonoeiamjgbaaWKept
import Derived.Test.YtahonoeiamjgbaaWShare
import Derived.Test.YtahonoeiamjgbaaWN
import Derived.Test.YtahonoeiamjgbaaWFootNe
import Derived.Test.YtahonoeiamjgbaaWAt
import Derived.Test.YtahonoeiamjgbaaWEqStruct
import Derived.Test.YtahonoeiamjgbaaWRepsOne
import Derived.Test.YtahonoeiamjgbaaWInv
import Derived.Test.YtahonoeiamjgbaaWInvWords
import Derived.Test.YtahonoeiamjgbaaWGuard
import Derived.Test.YtahonoeiamjgbaaWNEv
import Derived.Laws.Strings
import Derived.Laws.RangeAny
import Derived.LoopTactic
import Derived.Outline
import Derived.WalkSmall
import Derived.Handy
import Derived.DeepKeys4
/- Maps whose elements are read raw: what is there is told as a value. -/
namespace Go.Proofs.Ytahonoeiamjgbaa.LgMaps
open Go.RowKit Go.Maps

def raw (v : Value) : Option (DataW Value × List MemPlace) := some (.held v, [])
/-- What is found at a key. -/
def val (D : DataW Value) (kl : Lit) (z : Value) : Value := match D.atKey kl (.held z) with | .held v => v | _ => z
/-- Elements are told by values. -/
def Held (D : DataW Value) : Prop := ∀ kl z, ∃ v, D.atKey kl (.held z) = .held v
theorem val_eq {D : DataW Value} {kl : Lit} {z v : Value} (h : D.atKey kl (.held z) = .held v) : val D kl z = v := by rw [val, h]

section
variable {P : Program} {k t e : TypeId} {w : World} {b n : Nat} {D : DataW Value} {z : Value} {key : Value} {kl : Lit}
theorem mlook (h : w.ownsMap P k raw b n D) (K : Keyed P k) (ht : P.underlying t = some (.map k e)) (hz : (zeroValue e).run P w = .ok z w) (hkey : keyOf P k key = some kl) :
    (Instr.lookup t (.map (some b)) key false).run P w = .ok (val D kl z) w := by
  obtain ⟨v, ps, hrun, hv⟩ := h.lookup K ht hz (zd := .held z) (zp := []) rfl hkey
  have hv' : D.atKey kl (.held z) = .held v := by
    have := Option.some.inj hv
    exact (Prod.mk.inj this).1.symm
  rw [val_eq hv']
  exact hrun
theorem mput (h : w.ownsMap P k raw b n D) (K : Keyed P k) (ht : P.underlying t = some (.map k e)) (hn : n < maxLen) {v : Value} (hkey : keyOf P k key = some kl) :
    ∃ w', (Instr.mapUpdate t (.map (some b)) key v).run P w = .ok () w' ∧ w'.ownsMap P k raw b (n + 1) (D.put kl (.held v)) ∧ w.grownBy w' (some b) :=
  h.update K ht hn hkey rfl
theorem val_new (kl : Lit) (z : Value) : val (.map []) kl z = z := rfl
theorem val_put_same (hD : IsMap D) (hk : WideAt.IsKeyLit kl) (v : Value) : val (D.put kl (.held v)) kl z = v := val_eq (atKey_put_same hD hk _ _)
theorem val_put_other {kl' : Lit} (hne : kl' ≠ kl) (v : Value) : val (D.put kl (.held v)) kl' z = val D kl' z := by
  unfold val
  rw [atKey_put_other hne]
theorem val_del_same : val (D.del kl) kl z = z := val_eq (atKey_del_same _)
theorem val_del_other {kl' : Lit} (hne : kl' ≠ kl) : val (D.del kl) kl' z = val D kl' z := by
  unfold val
  rw [atKey_del_other hne]
end
end Go.Proofs.Ytahonoeiamjgbaa.LgMaps

/- The plain words of chapter 3 (numbers, texts and lists as bytes): lists of bytes and whole numbers alone; no program. -/
namespace Go.Proofs.Ytahonoeiamjgbaa.Pk
open Go.RowKit Go.Proofs.YtahonoeiamjgbaaW.PrintWords Go.Proofs.YtahonoeiamjgbaaW.PrintMore

/-- The form of a number: groups of seven bits, the lowest first. -/
def enc (n : Nat) : List UInt8 := if n < 128 then [UInt8.ofNat n] else UInt8.ofNat (128 + n % 128) :: enc (n / 128)
termination_by n
decreasing_by omega

theorem enc_small {n : Nat} (h : n < 128) : enc n = [UInt8.ofNat n] := by rw [enc, if_pos h]
theorem enc_big {n : Nat} (h : ¬ n < 128) : enc n = UInt8.ofNat (128 + n % 128) :: enc (n / 128) := by rw [enc, if_neg h]
theorem enc_ne (n : Nat) : enc n ≠ [] := by
  rw [enc]; split <;> simp
theorem enc_len (d : Nat) : ∀ n : Nat, n < 128 ^ (d + 1) → (enc n).length ≤ d + 1 := by
  induction d with
  | zero => intro n h; rw [enc_small (by simpa using h)]; simp
  | succ d ih =>
    intro n h
    by_cases hs : n < 128
    · rw [enc_small hs]; simp
    · rw [enc_big hs, List.length_cons]
      have := ih (n / 128) (by rw [Nat.div_lt_iff_lt_mul (by decide)]; rw [Nat.pow_succ] at h; exact h)
      omega
theorem enc_len8 {n : Nat} (h : n ≤ 1125899906842624) : (enc n).length ≤ 8 := enc_len 7 n (by omega)

/-- What Num answers. -/
def num (a : Int) : ByteArray × Int := if a < 0 ∨ a > 1125899906842624 then (⟨#[]⟩, 30) else (⟨(enc a.toNat).toArray⟩, 0)

theorem num_bad {a : Int} (h : a < 0 ∨ a > 1125899906842624) : num a = (⟨#[]⟩, 30) := by rw [num, if_pos h]
theorem num_ok {a : Int} (h0 : 0 ≤ a) (h1 : a ≤ 1125899906842624) : num a = (⟨(enc a.toNat).toArray⟩, 0) := by rw [num, if_neg (by omega)]

theorem strOfNums_eq (l : List Int) : strOfNums l = ⟨(l.map fun n => UInt8.ofNat n.toNat).toArray⟩ := rfl

theorem or128 (m : Nat) (h : m < 256) : m ||| 128 = 128 + m % 128 := by
  have : ∀ m : Fin 256, (m : Nat) ||| 128 = 128 + (m : Nat) % 128 := by decide +kernel
  exact this ⟨m, h⟩

theorem wrap_nat (m : Nat) (h : m ≤ 1125899906842624) : wrap64 (m : Int) = m := by unfold wrap64; omega
theorem low_nat (m : Nat) (h : m < 128) : (wrap64 (128 + (m : Int))) % 256 = ((128 + m : Nat) : Int) := by unfold wrap64; omega
theorem tmod_nat (n : Nat) : Int.tmod (n : Int) 128 = ((n % 128 : Nat) : Int) := by rw [Int.tmod_eq_emod_of_nonneg (by omega)]; omega
theorem tdiv_nat (n : Nat) : Int.tdiv (n : Int) 128 = ((n / 128 : Nat) : Int) := by rw [Int.tdiv_eq_ediv_of_nonneg (by omega)]; omega

/-- A loop that writes the groups, as the program has it. -/
theorem pack_loop (l0 : Nat → Int → List Int → Option (ByteArray × Int))
    (h : ∀ k x0 x4, l0 (k + 1) x0 x4 = if x0 > 127 then (if x4.length < 140737488355328 then (l0 k (x0 / 128) (x4 ++ [Go.bits .or .u8 ((x0) % 256) 128])) else (none)) else (if x4.length < 140737488355328 then (some (strOfNums (x4 ++ [(x0) % 256]), 0)) else (none))) :
    ∀ (d : Nat) (n : Nat) (acc : List Int) (k : Nat), n < 128 ^ (d + 1) → d < k → acc.length + d < 1000 → l0 k (n : Int) acc = some (⟨((acc.map fun n => UInt8.ofNat n.toNat) ++ enc n).toArray⟩, 0) := by
  intro d
  induction d with
  | zero =>
    intro n acc k hn hk ha
    obtain ⟨k, rfl⟩ : ∃ m, k = m + 1 := ⟨k - 1, by omega⟩
    have hn' : n < 128 := by simpa using hn
    rw [h, if_neg (by omega), if_pos (by omega), strOfNums_eq, enc_small hn']
    have e : ((n : Int) % 256).toNat = n := by omega
    simp [e]
  | succ d ih =>
    intro n acc k hn hk ha
    obtain ⟨k, rfl⟩ : ∃ m, k = m + 1 := ⟨k - 1, by omega⟩
    by_cases hs : n < 128
    · rw [h, if_neg (by omega), if_pos (by omega), strOfNums_eq, enc_small hs]
      have e : ((n : Int) % 256).toNat = n := by omega
      simp [e]
    · have hb : Go.bits .or .u8 ((n : Int) % 256) 128 = 128 + (n : Int) % 128 := by
        have e1 := bits_nat .u8 8 (by decide) wraps_u8 (n % 256) 128 (by omega) (by decide)
        have e2 : ((n % 256 : Nat) : Int) = (n : Int) % 256 := by omega
        rw [← e2, show (128 : Int) = ((128 : Nat) : Int) from rfl, e1.2]
        rw [or128 _ (by omega)]
        omega
      have hd : (n : Int) / 128 = ((n / 128 : Nat) : Int) := by omega
      rw [h, if_pos (by omega), if_pos (by omega), hb, hd, ih (n / 128) _ k (by rw [Nat.div_lt_iff_lt_mul (by decide)]; rw [Nat.pow_succ] at hn; exact hn) (by omega) (by simp; omega), enc_big hs]
      have e : (128 + (n : Int) % 128).toNat = 128 + n % 128 := by omega
      simp [e]

theorem append_mk (x : ByteArray) (l : List UInt8) : x ++ (⟨l.toArray⟩ : ByteArray) = ⟨(x.data.toList ++ l).toArray⟩ := by
  apply ByteArray.ext
  rw [ByteArray.data_append]
  apply Array.ext'
  simp

/-- The reference's loop. -/
theorem ref_loop (l0 : Nat → Int → ByteArray → Option (ByteArray × Int))
    (h : ∀ k x0 x4, l0 (k + 1) x0 x4 = if x0 ≥ 128 then ((some (([(wrap64 (128 + (Int.tmod x0 128))) % 256] : List Int) : List Int)).bind fun y107 => (if x4.size + (strOfNums y107).size ≤ 9223372036854775807 then (l0 k (wrap64 (Int.tdiv x0 128)) (x4 ++ (strOfNums y107))) else (none))) else ((some (([(x0) % 256] : List Int) : List Int)).bind fun y110 => (if x4.size + (strOfNums y110).size ≤ 9223372036854775807 then (some (x4 ++ (strOfNums y110), 0)) else (none)))) :
    ∀ (d : Nat) (n : Nat) (acc : ByteArray) (k : Nat), n < 128 ^ (d + 1) → n ≤ 1125899906842624 → d < k → acc.size + d < 1000 → l0 k (n : Int) acc = some (⟨(acc.data.toList ++ enc n).toArray⟩, 0) := by
  intro d
  induction d with
  | zero =>
    intro n acc k hn _ hk ha
    obtain ⟨k, rfl⟩ : ∃ m, k = m + 1 := ⟨k - 1, by omega⟩
    have hn' : n < 128 := by simpa using hn
    have e : ((n : Int) % 256).toNat = n := by omega
    rw [h, if_neg (by omega)]; simp only [Option.bind_some]; rw [if_pos (by rw [strOfNums_size]; simp; omega), strOfNums_eq, enc_small hn', append_mk]
    simp [e]
  | succ d ih =>
    intro n acc k hn hle hk ha
    obtain ⟨k, rfl⟩ : ∃ m, k = m + 1 := ⟨k - 1, by omega⟩
    by_cases hs : n < 128
    · have e : ((n : Int) % 256).toNat = n := by omega
      rw [h, if_neg (by omega)]; simp only [Option.bind_some]; rw [if_pos (by rw [strOfNums_size]; simp; omega), strOfNums_eq, enc_small hs, append_mk]
      simp [e]
    · have hq : wrap64 (Int.tdiv (n : Int) 128) = ((n / 128 : Nat) : Int) := by rw [tdiv_nat, wrap_nat _ (by omega)]
      have hm : (wrap64 (128 + Int.tmod (n : Int) 128)) % 256 = ((128 + n % 128 : Nat) : Int) := by rw [tmod_nat, low_nat _ (by omega)]
      rw [h, if_pos (by omega)]; simp only [Option.bind_some]; rw [if_pos (by rw [strOfNums_size]; simp; omega), hm, hq, strOfNums_eq]
      have eL : ([((128 + n % 128 : Nat) : Int)].map fun n => UInt8.ofNat n.toNat) = [UInt8.ofNat (128 + n % 128)] := by
        rw [List.map_cons, List.map_nil, Int.toNat_natCast]
      rw [eL, append_mk, enc_big hs]
      have ea : (acc.data.toList ++ [UInt8.ofNat (128 + n % 128)]).length + d < 1000 := by
        rw [List.length_append, Array.length_toList]
        have : acc.data.size = acc.size := rfl
        simp only [List.length_cons, List.length_nil]
        omega
      generalize UInt8.ofNat (128 + n % 128) = u at *
      have es : (⟨(acc.data.toList ++ [u]).toArray⟩ : ByteArray).size = (acc.data.toList ++ [u]).length := by
        show (acc.data.toList ++ [u]).toArray.size = _
        rw [List.size_toArray]
      rw [ih (n / 128) _ k (by rw [Nat.div_lt_iff_lt_mul (by decide)]; rw [Nat.pow_succ] at hn; exact hn) (by omega) (by omega) (by rw [es]; exact ea)]
      simp
end Go.Proofs.Ytahonoeiamjgbaa.Pk

/- The plain words of chapter 3, reading: what TakeNum, TakeText and TakeList answer; lists of bytes and whole numbers alone. -/
namespace Go.Proofs.Ytahonoeiamjgbaa.Pk
open Go.RowKit Go.IntWalk Go.Proofs.YtahonoeiamjgbaaW.PrintWords Go.Proofs.YtahonoeiamjgbaaW.PrintMore

/-- Reading a number off some bytes: the number, how many bytes, the error. -/
def dec : Nat → Nat → Nat → List UInt8 → Nat × Nat × Int
  | 0, _, _, _ => (0, 0, 32)
  | _ + 1, _, _, [] => (0, 0, 31)
  | f + 1, n, i, b :: l =>
    if b.toNat < 128 then (if (b.toNat = 0 ∧ 0 < i) ∨ n + b.toNat * 128 ^ i > 1125899906842624 then (0, 0, 32) else (n + b.toNat * 128 ^ i, i + 1, 0))
    else dec f (n + (b.toNat % 128) * 128 ^ i) (i + 1) l

/-- The answer at a place. -/
def placed (a : Int) (r : Nat × Nat × Int) : Int × Int × Int := if r.2.2 = 0 then ((r.1 : Int), a + r.2.1, 0) else (0, 0, r.2.2)
def takeNum (s : ByteArray) (a : Int) : Int × Int × Int := if a < 0 ∨ a > (s.size : Int) then (0, 0, 1) else placed a (dec 8 0 0 (s.data.toList.drop a.toNat))

theorem dec_zero (f : Nat) : ∀ n i l, (dec f n i l).2.2 ≠ 0 → (dec f n i l).1 = 0 ∧ (dec f n i l).2.1 = 0 := by
  induction f with
  | zero => intro n i l _; simp [dec]
  | succ f ih =>
    intro n i l
    cases l with
    | nil => intro _; simp [dec]
    | cons b l =>
      rw [dec]
      split
      · split
        · simp
        · simp
      · exact ih _ _ _

theorem dec_ok (f : Nat) : ∀ n i l, (dec f n i l).2.2 = 0 → (dec f n i l).1 ≤ 1125899906842624 ∧ i < (dec f n i l).2.1 ∧ (dec f n i l).2.1 ≤ i + f ∧ (dec f n i l).2.1 ≤ i + l.length := by
  induction f with
  | zero => intro n i l h; simp [dec] at h
  | succ f ih =>
    intro n i l
    cases l with
    | nil => intro h; simp [dec] at h
    | cons b l =>
      rw [dec]
      split
      · split
        · intro h; simp at h
        · intro _; simp only [List.length_cons]; omega
      · intro h
        have := ih _ _ _ h
        simp only [List.length_cons]
        omega

theorem bt_drop (s : ByteArray) (j : Nat) (h : j < s.size) : ∃ b : UInt8, s.data.toList.drop j = b :: s.data.toList.drop (j + 1) ∧ bt s (j : Int) = (b.toNat : Int) := by
  refine ⟨s[j], ?_, ?_⟩
  · have hl : j < s.data.toList.length := by simpa using h
    rw [List.drop_eq_getElem_cons hl]
    rfl
  · unfold bt
    rw [dif_pos (by simpa using h)]
    rfl
theorem bt_end (s : ByteArray) (j : Nat) (h : s.size ≤ j) : s.data.toList.drop j = [] := by
  rw [List.drop_eq_nil_iff]
  simpa using h

theorem pow7 (i : Nat) : 128 ^ i = 2 ^ (7 * i) := by rw [Nat.pow_mul]

theorem and127 (b : Nat) (h : b < 256) : Go.bits .and .u8 (b : Int) 127 = ((b % 128 : Nat) : Int) := by
  have := bits_mask .u8 8 (by decide) wraps_u8 7 (by decide) (b : Int) (by omega) (by omega)
  rw [show (127 : Int) = 2 ^ 7 - 1 from by decide, this]
  omega

/-- The next group, as the program lays it. -/
theorem group (n i b : Nat) (hi : i < 8) (hn : n < 128 ^ i) (hb : b < 256) :
    Go.bits .or .i64 (n : Int) (shl .i64 (wrap64 (Go.bits .and .u8 (b : Int) 127)) (wrap64 (7 * (i : Int)))) = ((n + (b % 128) * 128 ^ i : Nat) : Int) := by
  have h7 : wrap64 (7 * (i : Int)) = ((7 * i : Nat) : Int) := by rw [wrap64_in _ (by omega)]; omega
  have hm : b % 128 < 128 := Nat.mod_lt _ (by decide)
  have hp7 : 128 ^ i ≤ 128 ^ 7 := Nat.pow_le_pow_right (by decide) (by omega)
  have hp : (128 : Nat) ^ 7 = 562949953421312 := by decide
  rw [and127 b hb, h7, wrap64_in _ (by omega)]
  have hlt : (b % 128) * 128 ^ i < 72057594037927936 := by
    have : (b % 128) * 128 ^ i ≤ 127 * 128 ^ 7 := Nat.mul_le_mul (by omega) hp7
    rw [hp] at this
    omega
  unfold shl
  rw [Int.toNat_natCast, Nat.min_eq_left (by show 7 * i ≤ 64; omega)]
  have he : ((b % 128 : Nat) : Int) * 2 ^ (7 * i) = (((b % 128) * 128 ^ i : Nat) : Int) := by rw [pow7]; simp
  rw [he, i64_in _ (by omega)]
  have hnn : n < 2 ^ 56 := by rw [hp] at hp7; omega
  rw [(bits_nat .i64 56 (by decide) (fun m h0 h1 => i64_in m (by constructor <;> omega)) n ((b % 128) * 128 ^ i) hnn (by omega)).2]
  rw [Nat.or_comm, Nat.mul_comm, pow7, ← Nat.two_pow_add_eq_or_of_lt (by rw [← pow7]; exact hn)]
  rw [Nat.add_comm]

/-- The next group, as the reference lays it. -/
theorem groupR (n i b : Nat) (hi : i < 8) (hn : n < 128 ^ i) (hb : b < 256) :
    wrap64 ((n : Int) + (shl .i64 (Int.tmod (wrap64 (b : Int)) 128) (wrap64 (7 * (i : Int))))) = ((n + (b % 128) * 128 ^ i : Nat) : Int) := by
  have h7 : wrap64 (7 * (i : Int)) = ((7 * i : Nat) : Int) := by rw [wrap64_in _ (by omega)]; omega
  have hm : b % 128 < 128 := Nat.mod_lt _ (by decide)
  have hp7 : 128 ^ i ≤ 128 ^ 7 := Nat.pow_le_pow_right (by decide) (by omega)
  have hp : (128 : Nat) ^ 7 = 562949953421312 := by decide
  rw [wrap64_in (b : Int) (by omega), tmod_nat, h7]
  have hlt : (b % 128) * 128 ^ i < 72057594037927936 := by
    have : (b % 128) * 128 ^ i ≤ 127 * 128 ^ 7 := Nat.mul_le_mul (by omega) hp7
    rw [hp] at this
    omega
  unfold shl
  rw [Int.toNat_natCast, Nat.min_eq_left (by show 7 * i ≤ 64; omega)]
  have he : ((b % 128 : Nat) : Int) * 2 ^ (7 * i) = (((b % 128) * 128 ^ i : Nat) : Int) := by rw [pow7]; simp
  have hnn : n < 2 ^ 56 := by rw [hp] at hp7; omega
  rw [he, i64_in _ (by omega), wrap64_in _ (by omega)]
  omega

theorem group_lt (n i b : Nat) (hn : n < 128 ^ i) : n + (b % 128) * 128 ^ i < 128 ^ (i + 1) := by
  have hm : b % 128 < 128 := Nat.mod_lt _ (by decide)
  have : (b % 128) * 128 ^ i ≤ 127 * 128 ^ i := Nat.mul_le_mul_right _ (by omega)
  rw [Nat.pow_succ]
  omega

theorem wrap_add (a i : Nat) (ha : a ≤ 1000000000000000) (hi : i ≤ 4000) : wrap64 ((a : Int) + (i : Int)) = ((a + i : Nat) : Int) := by rw [wrap64_in _ (by omega)]; omega
theorem wrap_up (a : Nat) (ha : a ≤ 1000000000001000) : wrap64 ((a : Int) + 1) = ((a + 1 : Nat) : Int) := by rw [wrap64_in _ (by omega)]; omega
theorem wrap_sub (s a : Nat) (h : a ≤ s) (hs : s ≤ 1000000000000000) : wrap64 ((s : Int) - (a : Int)) = ((s - a : Nat) : Int) := by rw [wrap64_in _ (by omega)]; omega
theorem wrap_7 (i : Nat) (hi : i < 8) : 0 ≤ wrap64 (7 * (i : Int)) := by rw [wrap64_in _ (by omega)]; omega

theorem takeNum_err {s : ByteArray} {a : Int} (h : (takeNum s a).2.2 ≠ 0) : (takeNum s a).1 = 0 ∧ (takeNum s a).2.1 = 0 := by
  unfold takeNum at h ⊢
  split
  · simp
  · rename_i hc
    rw [if_neg hc] at h
    unfold placed at h ⊢
    split
    · rename_i h0
      rw [if_pos h0] at h
      simp at h
    · simp
theorem takeNum_ok {s : ByteArray} {a : Int} (h : (takeNum s a).2.2 = 0) :
    0 ≤ a ∧ a ≤ s.size ∧ 0 ≤ (takeNum s a).1 ∧ (takeNum s a).1 ≤ 1125899906842624 ∧ a < (takeNum s a).2.1 ∧ (takeNum s a).2.1 ≤ s.size := by
  unfold takeNum at h ⊢
  by_cases hc : a < 0 ∨ a > (s.size : Int)
  · rw [if_pos hc] at h; simp at h
  · rw [if_neg hc] at h ⊢
    unfold placed at h ⊢
    by_cases h0 : (dec 8 0 0 (s.data.toList.drop a.toNat)).2.2 = 0
    · rw [if_pos h0] at h ⊢
      have := dec_ok 8 0 0 _ h0
      have hl : (s.data.toList.drop a.toNat).length = s.size - a.toNat := by rw [List.length_drop]; rfl
      rw [hl] at this
      simp only
      omega
    · rw [if_neg h0] at h; exact absurd h h0

/-- What TakeText answers. -/
def takeText (s : ByteArray) (a : Int) : ByteArray × Int × Int :=
  if (takeNum s a).2.2 = 0 then
    (if (takeNum s a).1 > 2000 then (⟨#[]⟩, 0, 32) else if (takeNum s a).1 > (s.size : Int) - (takeNum s a).2.1 then (⟨#[]⟩, 0, 31)
    else (s.extract (takeNum s a).2.1.toNat ((takeNum s a).2.1 + (takeNum s a).1).toNat, (takeNum s a).2.1 + (takeNum s a).1, 0))
  else (⟨#[]⟩, 0, (takeNum s a).2.2)

theorem takeText_ok {s : ByteArray} {a : Int} (h : (takeText s a).2.2 = 0) :
    (takeNum s a).2.2 = 0 ∧ (takeNum s a).1 ≤ 2000 ∧ (takeNum s a).1 ≤ (s.size : Int) - (takeNum s a).2.1 ∧
    takeText s a = (s.extract (takeNum s a).2.1.toNat ((takeNum s a).2.1 + (takeNum s a).1).toNat, (takeNum s a).2.1 + (takeNum s a).1, 0) := by
  unfold takeText at h ⊢
  by_cases h0 : (takeNum s a).2.2 = 0
  · rw [if_pos h0] at h ⊢
    by_cases h1 : (takeNum s a).1 > 2000
    · rw [if_pos h1] at h; simp at h
    · rw [if_neg h1] at h ⊢
      by_cases h2 : (takeNum s a).1 > (s.size : Int) - (takeNum s a).2.1
      · rw [if_pos h2] at h; simp at h
      · rw [if_neg h2]
        exact ⟨h0, by omega, by omega, rfl⟩
  · rw [if_neg h0] at h; exact absurd h h0
theorem takeText_next {s : ByteArray} {a : Int} (h : (takeText s a).2.2 = 0) : 0 ≤ a ∧ a < (takeText s a).2.1 ∧ (takeText s a).2.1 ≤ s.size := by
  obtain ⟨h0, h1, h2, h3⟩ := takeText_ok h
  have := takeNum_ok h0
  rw [h3]
  simp only
  omega

/-- Some texts, one behind the other. -/
def takeTexts (s : ByteArray) : Nat → Int → List ByteArray → List ByteArray × Int × Int
  | 0, a, l => (l, a, 0)
  | n + 1, a, l => if (takeText s a).2.2 = 0 then takeTexts s n (takeText s a).2.1 (l ++ [(takeText s a).1]) else ([], 0, (takeText s a).2.2)
/-- What TakeList answers. -/
def takeList (s : ByteArray) (a : Int) : List ByteArray × Int × Int :=
  if (takeNum s a).2.2 = 0 then (if (takeNum s a).1 > 4000 then ([], 0, 32) else takeTexts s (takeNum s a).1.toNat (takeNum s a).2.1 []) else ([], 0, (takeNum s a).2.2)
theorem takeTexts_len (s : ByteArray) : ∀ n a l, (takeTexts s n a l).1.length ≤ l.length + n := by
  intro n
  induction n with
  | zero => intro a l; simp [takeTexts]
  | succ n ih =>
    intro a l
    rw [takeTexts]
    split
    · have := ih (takeText s a).2.1 (l ++ [(takeText s a).1])
      rw [List.length_append] at this
      simp only [List.length_cons, List.length_nil] at this
      omega
    · simp
theorem takeList_len (s : ByteArray) (a : Int) : (takeList s a).1.length ≤ 4000 := by
  unfold takeList
  split
  · split
    · simp
    · have := takeTexts_len s (takeNum s a).1.toNat (takeNum s a).2.1 []
      simp only [List.length_nil] at this
      omega
  · simp
end Go.Proofs.Ytahonoeiamjgbaa.Pk

/- pack.join: the bytes of all pieces, one behind the other; through strings.Join's contract. -/
namespace Go.Proofs.Ytahonoeiamjgbaa.Joins
open Go.RowKit Go.Proofs.YtahonoeiamjgbaaW.PrintWords Go.Proofs.YtahonoeiamjgbaaW.PrintMore

/-- The bytes of all pieces. -/
def cat (l : List ByteArray) : List UInt8 := (l.map (·.data.toList)).flatten
theorem join_cat (l : List ByteArray) : Lib.join (l.map (·.data.toList)) [] = cat l := by
  cases l with
  | nil => rfl
  | cons x r =>
    rw [List.map_cons, Lib.join_cons]
    simp [cat, Lib.joinTail]
    rfl
def pack_join.f (l0 : List ByteArray) : Option (ByteArray) := if (cat l0).length ≤ 140737488355328 ∧ l0.length ≤ 140737488355328 then some ⟨(cat l0).toArray⟩ else none

theorem spot_none {w : World} {a : Addr} {v : Value} (h : w.cell? a = some v) : a = ⟨a.block, a.off, none⟩ := by
  unfold World.cell? at h
  split at h
  · split at h
    · cases h
    · rename_i hs
      cases a with
      | mk b o s => cases s with
        | none => rfl
        | some x => simp at hs
  · cases h

theorem strings_join (A0 : Option Addr) (c0 : Nat) (l0 : List ByteArray) (w : World) (hr0 : Kd.C Kd.string w A0 l0.length l0) (hc0 : l0.length ≤ c0) (hl : (cat l0).length ≤ 140737488355328) (hn : l0.length ≤ 140737488355328) :
    Calls Try.prog 99 #[.slice A0 l0.length c0, .string ⟨#[]⟩] w fun e w' => e = .returned (.string ⟨(cat l0).toArray⟩) ∧ Below w.heap.size w w' := by
  cases hl0 : l0 with
  | nil =>
    refine (Try.strings_Join_none A0 c0 ⟨#[]⟩ w).mono fun e w' ⟨he, hw⟩ => ⟨he, hw ▸ Below.refl _ _⟩
  | cons x r =>
    rw [← hl0]
    obtain ⟨ad, rfl, hcell⟩ := hr0.2.2 (by rw [hl0]; simp)
    have each : ∀ (j : Nat) y, l0[j]? = some y → w.cell? (ad.add j) = some (.string y) := by
      intro j y hy
      obtain ⟨c, hcl, hk, hcc⟩ := hcell j y hy
      have hk' : c = [.string y] := hk
      have := hcc 0 (.string y) (by rw [hk']; rfl)
      rw [show j * Kd.string.sz + 0 = j from Nat.mul_one j] at this
      exact this
    have h0 := each 0 x (by rw [hl0]; rfl)
    rw [show ad.add 0 = ad from by simp [Addr.add]] at h0
    have hsp := spot_none h0
    have hlt : ad.block < w.heap.size := World.block_lt_of_cell? w _ h0
    have := Try.strings_Join ad.block ad.off c0 l0 ⟨#[]⟩ w (fun j y hy => by
      have h1 := each j y hy
      rw [hsp] at h1
      by_cases hj : j = 0
      · subst hj; simpa [Addr.add] using h1
      · simpa [Addr.add, hj] using h1) hlt hn hc0 (by rw [show (⟨#[]⟩ : ByteArray).data.toList = [] from rfl, join_cat]; exact hl)
    rw [show (⟨#[]⟩ : ByteArray).data.toList = [] from rfl, join_cat, ← hsp] at this
    exact this

set_option maxHeartbeats 400000 in
theorem pack_join.calls (A0 : Option Addr) (c0 : Nat) (l0 : List ByteArray) (r : ByteArray) (w : World) (hr0 : Kd.C Kd.string w A0 l0.length l0) (hc0 : l0.length ≤ c0) (h : pack_join.f l0 = some r) :
    Calls Try.prog 96 #[.slice A0 l0.length c0] w fun e w' => e = .returned (.string r) ∧ Below w.heap.size w w' := by
  unfold pack_join.f at h
  by_cases hl : (cat l0).length ≤ 140737488355328 ∧ l0.length ≤ 140737488355328
  · rw [if_pos hl] at h
    obtain rfl := Option.some.inj h
    have HJ := fun W => strings_join A0 c0 l0 W
    have HC := Aside0.mk hr0
    have HN := Aside0.mk hc0
    have HL := Aside0.mk hl
    clear hr0 hc0 h hl
    go_enter Try.func96, Try.ntmps96
    go_wp2_with (go_at_call 99; refine (HJ _ HC.out HN.out HL.out.1 HL.out.2).mono ?_; rintro e w' ⟨rfl, hb⟩)
    go_ret
    exact ⟨rfl, hb⟩
  · rw [if_neg hl] at h; cases h
end Go.Proofs.Ytahonoeiamjgbaa.Joins

/- The plain words of chapter 3, writing: what Text and List answer. -/
namespace Go.Proofs.Ytahonoeiamjgbaa.Pk
open Go.RowKit Go.IntWalk Go.Proofs.YtahonoeiamjgbaaW.PrintWords Go.Proofs.YtahonoeiamjgbaaW.PrintMore

/-- The form of a text. -/
def item (s : ByteArray) : List UInt8 := enc s.size ++ s.data.toList
def text (s : ByteArray) : ByteArray × Int := if s.size > 2000 then (⟨#[]⟩, 2) else (⟨(enc s.size ++ s.data.toList).toArray⟩, 0)
theorem text_long {s : ByteArray} (h : s.size > 2000) : text s = (⟨#[]⟩, 2) := by rw [text, if_pos h]
theorem text_ok {s : ByteArray} (h : ¬ s.size > 2000) : text s = (⟨(item s).toArray⟩, 0) := by rw [text, if_neg h]; rfl
theorem item_len {s : ByteArray} (h : s.size ≤ 2000) : (item s).length ≤ 2008 := by
  have hl := enc_len8 (n := s.size) (by omega)
  have hs : s.data.toList.length = s.size := by simp
  rw [item, List.length_append, hs]
  omega
theorem two_len {s : ByteArray} (hl : (enc s.size).length ≤ 8) (h : ¬ s.size > 2000) : ((⟨(enc s.size).toArray⟩ : ByteArray).data.toList ++ s.data.toList).length ≤ 140737488355328 := by
  have hs : s.data.toList.length = s.size := by simp
  rw [List.length_append, hs]
  show (enc s.size).toArray.toList.length + _ ≤ _
  rw [List.toList_toArray]
  omega
theorem cat_two (a s : ByteArray) : Joins.cat [a, s] = a.data.toList ++ s.data.toList := by simp [Joins.cat]
theorem cat_snoc (l : List ByteArray) (a : ByteArray) : Joins.cat (l ++ [a]) = Joins.cat l ++ a.data.toList := by simp [Joins.cat]
theorem mk_append (l : List UInt8) (s : ByteArray) : (⟨l.toArray⟩ : ByteArray) ++ s = ⟨(l ++ s.data.toList).toArray⟩ := by
  apply ByteArray.ext
  rw [ByteArray.data_append]
  apply Array.ext'
  simp

/-- The forms of some texts, one behind the other; none: one is too long. -/
def texts : List ByteArray → Option (List UInt8)
  | [] => some []
  | s :: l => if s.size > 2000 then none else match texts l with | none => none | some t => some (item s ++ t)
/-- What List answers. -/
def list (l : List ByteArray) : ByteArray × Int := if l.length > 4000 then (⟨#[]⟩, 2) else match texts l with | none => (⟨#[]⟩, 2) | some t => (⟨(enc l.length ++ t).toArray⟩, 0)
end Go.Proofs.Ytahonoeiamjgbaa.Pk

/- The plain law of chapter 3: what was written is read again, wherever it stands; what is read has one form; what is cut off is cut. Lists of bytes alone. -/
namespace Go.Proofs.Ytahonoeiamjgbaa.Pk
open Go.RowKit Go.IntWalk Go.Proofs.YtahonoeiamjgbaaW.PrintWords Go.Proofs.YtahonoeiamjgbaaW.PrintMore

theorem toNat_small {n : Nat} (h : n < 256) : (UInt8.ofNat n).toNat = n := by
  rw [UInt8.toNat_ofNat']
  exact Nat.mod_eq_of_lt h

theorem ofNat_toNat (b : UInt8) : UInt8.ofNat b.toNat = b := by
  apply UInt8.toNat_inj.1
  exact toNat_small b.toNat_lt

/-! ### numbers -/
theorem pow_step (m i : Nat) : m * 128 ^ (i + 1) = (128 * m) * 128 ^ i := by rw [Nat.pow_succ, Nat.mul_comm 128 m, Nat.mul_assoc, Nat.mul_comm (128 ^ i) 128]

theorem dec_enc (n : Nat) : ∀ (f acc i : Nat) (rest : List UInt8), (enc n).length ≤ f → acc + n * 128 ^ i ≤ 1125899906842624 → (0 < i → 0 < n) →
    dec f acc i (enc n ++ rest) = (acc + n * 128 ^ i, i + (enc n).length, 0) := by
  induction n using Nat.strongRecOn with
  | _ n ih =>
    intro f acc i rest hf hv hi
    have hne : 0 < (enc n).length := List.length_pos_iff.2 (enc_ne n)
    obtain ⟨f, rfl⟩ : ∃ m, f = m + 1 := ⟨f - 1, by omega⟩
    by_cases hs : n < 128
    · rw [enc_small hs]
      simp only [List.cons_append, List.nil_append, dec]
      rw [toNat_small (by omega), if_pos hs, if_neg (by omega)]
      rfl
    · rw [enc_big hs] at hf ⊢
      simp only [List.cons_append, dec, List.length_cons] at hf ⊢
      rw [toNat_small (by omega), if_neg (by omega), Nat.add_mod_left, Nat.mod_mod]
      have hsplit : n % 128 * 128 ^ i + n / 128 * 128 ^ (i + 1) = n * 128 ^ i := by
        rw [pow_step, ← Nat.add_mul, Nat.add_comm, Nat.div_add_mod]
      rw [ih (n / 128) (by omega) f _ (i + 1) rest (by omega) (by omega) (by omega)]
      refine Prod.ext ?_ (Prod.ext ?_ rfl)
      · show _ + _ = _ + _
        omega
      · show _ + _ = _ + _
        omega

theorem dec_one (f : Nat) : ∀ (acc i : Nat) (l : List UInt8), (dec f acc i l).2.2 = 0 →
    ∃ n rest, l = enc n ++ rest ∧ (dec f acc i l).1 = acc + n * 128 ^ i ∧ (dec f acc i l).2.1 = i + (enc n).length ∧ (0 < i → 0 < n) := by
  induction f with
  | zero => intro acc i l h; simp [dec] at h
  | succ f ih =>
    intro acc i l
    cases l with
    | nil => intro h; simp [dec] at h
    | cons b l =>
      rw [dec]
      by_cases hb : b.toNat < 128
      · rw [if_pos hb]
        by_cases hc : (b.toNat = 0 ∧ 0 < i) ∨ acc + b.toNat * 128 ^ i > 1125899906842624
        · rw [if_pos hc]; intro h; simp at h
        · rw [if_neg hc]
          intro _
          refine ⟨b.toNat, l, ?_, rfl, ?_, by omega⟩
          · rw [enc_small hb, ofNat_toNat]; rfl
          · rw [enc_small hb]; rfl
      · rw [if_neg hb]
        intro h
        obtain ⟨m, rest, rfl, h1, h2, h3⟩ := ih _ _ _ h
        have hm : 0 < m := h3 (by omega)
        have hb8 := b.toNat_lt
        have hbig : ¬ (b.toNat % 128 + 128 * m) < 128 := by omega
        have he : enc (b.toNat % 128 + 128 * m) = b :: enc m := by
          rw [enc_big hbig]
          have e1 : (b.toNat % 128 + 128 * m) / 128 = m := by omega
          have e2 : 128 + (b.toNat % 128 + 128 * m) % 128 = b.toNat := by omega
          rw [e1, e2, ofNat_toNat]
        refine ⟨b.toNat % 128 + 128 * m, rest, ?_, ?_, ?_, by omega⟩
        · rw [he]; rfl
        · rw [h1, pow_step, Nat.add_mul]; omega
        · rw [h2, he, List.length_cons]; omega

theorem dec_cut (n : Nat) : ∀ (f acc i : Nat) (p q : List UInt8), p ++ q = enc n → q ≠ [] → (enc n).length ≤ f → dec f acc i p = (0, 0, 31) := by
  induction n using Nat.strongRecOn with
  | _ n ih =>
    intro f acc i p q hp hq hf
    have hne : 0 < (enc n).length := List.length_pos_iff.2 (enc_ne n)
    obtain ⟨f, rfl⟩ : ∃ m, f = m + 1 := ⟨f - 1, by omega⟩
    cases p with
    | nil => rfl
    | cons b p =>
      by_cases hs : n < 128
      · rw [enc_small hs] at hp
        simp only [List.cons_append, List.cons.injEq, List.append_eq_nil_iff] at hp
        exact absurd hp.2.2 hq
      · rw [enc_big hs] at hp hf
        simp only [List.cons_append, List.cons.injEq] at hp
        obtain ⟨rfl, hp⟩ := hp
        rw [dec, toNat_small (by omega), if_neg (by omega)]
        exact ih (n / 128) (by omega) f _ _ p q hp hq (by simp only [List.length_cons] at hf; omega)

theorem drop_len (s : ByteArray) (a : Nat) : (s.data.toList.drop a).length = s.size - a := by rw [List.length_drop]; rfl

theorem takeNum_enc {s : ByteArray} {a n : Nat} {rest : List UInt8} (ha : a ≤ s.size) (h : s.data.toList.drop a = enc n ++ rest) (hn : n ≤ 1125899906842624) :
    takeNum s (a : Int) = ((n : Int), ((a + (enc n).length : Nat) : Int), 0) := by
  unfold takeNum
  rw [if_neg (by omega), Int.toNat_natCast, h, dec_enc n 8 0 0 rest (enc_len8 hn) (by simpa using hn) (by omega)]
  unfold placed
  simp
theorem takeNum_one {s : ByteArray} {x : Int} (h : (takeNum s x).2.2 = 0) :
    ∃ (a n : Nat) (rest : List UInt8), x = (a : Int) ∧ a ≤ s.size ∧ n ≤ 1125899906842624 ∧ s.data.toList.drop a = enc n ++ rest ∧ takeNum s x = ((n : Int), ((a + (enc n).length : Nat) : Int), 0) := by
  have hb := takeNum_ok h
  obtain ⟨a, rfl⟩ := Int.eq_ofNat_of_zero_le hb.1
  unfold takeNum at h hb ⊢
  rw [if_neg (by omega), Int.toNat_natCast] at h hb ⊢
  unfold placed at h hb ⊢
  by_cases h0 : (dec 8 0 0 (s.data.toList.drop a)).2.2 = 0
  · rw [if_pos h0] at h hb ⊢
    obtain ⟨n, rest, he, h1, h2, _⟩ := dec_one 8 0 0 _ h0
    simp only [Nat.pow_zero, Nat.mul_one, Nat.zero_add] at h1 h2
    refine ⟨a, n, rest, rfl, by omega, ?_, he, ?_⟩
    · simp only at hb; omega
    · rw [h1, h2]; simp
  · rw [if_neg h0] at h; exact absurd h h0
theorem takeNum_cut {s : ByteArray} {a n : Nat} {p q : List UInt8} (ha : a ≤ s.size) (h : s.data.toList.drop a = p) (hp : p ++ q = enc n) (hq : q ≠ []) (hn : n ≤ 1125899906842624) :
    takeNum s (a : Int) = (0, 0, 31) := by
  unfold takeNum
  rw [if_neg (by omega), Int.toNat_natCast, h, dec_cut n 8 0 0 p q hp hq (enc_len8 hn)]
  rfl

/-! ### texts -/
theorem extract_list (s : ByteArray) (i j : Nat) : (s.extract i j).data.toList = (s.data.toList.drop i).take (j - i) := by
  rw [ByteArray.data_extract, Array.toList_extract]
theorem bytes_ext {s t : ByteArray} (h : s.data.toList = t.data.toList) : s = t := ByteArray.ext (Array.ext' h)
theorem drop_more {s : ByteArray} {a : Nat} {x y : List UInt8} (h : s.data.toList.drop a = x ++ y) : s.data.toList.drop (a + x.length) = y := by
  rw [← List.drop_drop, h, List.drop_left]

theorem takeText_enc {s t : ByteArray} {a : Nat} {rest : List UInt8} (ha : a ≤ s.size) (h : s.data.toList.drop a = item t ++ rest) (ht : t.size ≤ 2000) :
    takeText s (a : Int) = (t, ((a + (item t).length : Nat) : Int), 0) := by
  have hh : s.data.toList.drop a = enc t.size ++ (t.data.toList ++ rest) := by rw [h, item, List.append_assoc]
  have htl : t.data.toList.length = t.size := by simp
  have hd := drop_more hh
  have hlen : s.size - (a + (enc t.size).length) = t.size + rest.length := by rw [← drop_len, hd, List.length_append, htl]
  unfold takeText
  rw [takeNum_enc ha hh (by omega), if_pos rfl, if_neg (by simp only; omega)]
  simp only
  have hle : a + (enc t.size).length ≤ s.size := by
    have := drop_len s a
    rw [hh, List.length_append] at this
    omega
  rw [if_neg (by omega)]
  refine Prod.ext ?_ (Prod.ext ?_ rfl)
  · apply bytes_ext
    rw [extract_list, Int.toNat_natCast, hd]
    rw [show (((a + (enc t.size).length : Nat) : Int) + (t.size : Int)).toNat - (a + (enc t.size).length) = t.data.toList.length from by omega]
    rw [List.take_left]
  · simp only [item, List.length_append, htl]
    omega
theorem takeText_one {s : ByteArray} {x : Int} (h : (takeText s x).2.2 = 0) :
    ∃ (a : Nat) (t : ByteArray) (rest : List UInt8), x = (a : Int) ∧ a ≤ s.size ∧ t.size ≤ 2000 ∧ s.data.toList.drop a = item t ++ rest ∧ takeText s x = (t, ((a + (item t).length : Nat) : Int), 0) := by
  obtain ⟨h0, h1, h2, h3⟩ := takeText_ok h
  obtain ⟨a, n, rest, rfl, ha, hn, hd, he⟩ := takeNum_one h0
  rw [he] at h1 h2 h3
  simp only at h1 h2 h3
  have hdm := drop_more hd
  have hrl : rest.length = s.size - (a + (enc n).length) := by rw [← drop_len, hdm]
  rw [Int.toNat_natCast] at h3
  have hx : (s.extract (a + (enc n).length) (((a + (enc n).length : Nat) : Int) + (n : Int)).toNat).data.toList = rest.take n := by
    rw [extract_list, hdm]
    congr 1
    omega
  generalize s.extract (a + (enc n).length) (((a + (enc n).length : Nat) : Int) + (n : Int)).toNat = t at h3 hx
  have htl : t.data.toList.length = t.size := by simp
  have htn : t.size = n := by
    rw [← htl, hx, List.length_take]
    omega
  refine ⟨a, t, rest.drop n, rfl, ha, by omega, ?_, ?_⟩
  · rw [hd, item, htn, hx, List.append_assoc, List.take_append_drop]
  · rw [h3, item, List.length_append, htl, htn]
    refine Prod.ext rfl (Prod.ext ?_ rfl)
    simp only
    omega
theorem takeText_cut {s t : ByteArray} {a : Nat} {p q : List UInt8} (ha : a ≤ s.size) (h : s.data.toList.drop a = p) (hp : p ++ q = item t) (hq : q ≠ []) (ht : t.size ≤ 2000) :
    takeText s (a : Int) = (⟨#[]⟩, 0, 31) := by
  have htl : t.data.toList.length = t.size := by simp
  have hql : 0 < q.length := List.length_pos_iff.2 hq
  have hpl : p.length + q.length = (enc t.size).length + t.size := by rw [← List.length_append, hp, item, List.length_append, htl]
  rw [item] at hp
  rcases List.append_eq_append_iff.1 hp with ⟨z, hz1, hz2⟩ | ⟨z, hz1, hz2⟩
  · -- the cut lies in the length
    by_cases hz : z = []
    · subst hz
      rw [List.append_nil] at hz1
      unfold takeText
      rw [takeNum_enc (rest := []) ha (by rw [h, List.append_nil]; exact hz1.symm) (by omega), if_pos rfl, if_neg (by simp only; omega)]
      simp only
      have := drop_len s a
      rw [h] at this
      have hz1' : p.length = (enc t.size).length := by rw [hz1]
      rw [if_pos (by omega)]
    · unfold takeText
      rw [takeNum_cut ha h hz1.symm hz (by omega)]
      rfl
  · unfold takeText
    rw [takeNum_enc (rest := z) ha (by rw [h, hz1]) (by omega), if_pos rfl, if_neg (by simp only; omega)]
    simp only
    have := drop_len s a
    rw [h] at this
    rw [if_pos (by omega)]

/-! ### lists -/
def items (L : List ByteArray) : List UInt8 := (L.map item).flatten
theorem items_cons (t : ByteArray) (L : List ByteArray) : items (t :: L) = item t ++ items L := rfl
theorem texts_items : ∀ L : List ByteArray, (∀ t ∈ L, t.size ≤ 2000) → texts L = some (items L)
  | [], _ => rfl
  | t :: L, h => by
    rw [texts, if_neg (by have := h t List.mem_cons_self; omega), texts_items L (fun x hx => h x (List.mem_cons_of_mem _ hx))]
    rfl
theorem texts_some : ∀ (L : List ByteArray) (x : List UInt8), texts L = some x → (∀ t ∈ L, t.size ≤ 2000) ∧ x = items L
  | [], x, h => by
    simp only [texts, Option.some.injEq] at h
    subst h
    exact ⟨fun t ht => absurd ht (by simp), rfl⟩
  | t :: L, x, h => by
    rw [texts] at h
    split at h
    · cases h
    · rename_i ht
      cases hL : texts L with
      | none => rw [hL] at h; cases h
      | some y =>
        rw [hL] at h
        obtain ⟨h1, rfl⟩ := texts_some L y hL
        simp only [Option.some.injEq] at h
        subst h
        refine ⟨fun z hz => ?_, rfl⟩
        rcases List.mem_cons.1 hz with rfl | hz
        · omega
        · exact h1 z hz

theorem item_ne (t : ByteArray) : item t ≠ [] := by
  unfold item
  intro h
  exact enc_ne _ (List.append_eq_nil_iff.1 h).1

theorem takeTexts_enc {s : ByteArray} : ∀ (L : List ByteArray) (a : Nat) (acc : List ByteArray) (rest : List UInt8), a ≤ s.size → s.data.toList.drop a = items L ++ rest → (∀ t ∈ L, t.size ≤ 2000) →
    takeTexts s L.length (a : Int) acc = (acc ++ L, ((a + (items L).length : Nat) : Int), 0)
  | [], a, acc, rest, _, _, _ => by simp [takeTexts, items]
  | t :: L, a, acc, rest, ha, h, ht => by
    have h' : s.data.toList.drop a = item t ++ (items L ++ rest) := by rw [h, items_cons, List.append_assoc]
    have hle : a + (item t).length ≤ s.size := by
      have := drop_len s a
      rw [h', List.length_append] at this
      have := List.length_pos_iff.2 (item_ne t)
      omega
    rw [List.length_cons, takeTexts, takeText_enc ha h' (ht t List.mem_cons_self), if_pos rfl]
    simp only
    rw [takeTexts_enc L _ _ rest hle (drop_more h') (fun x hx => ht x (List.mem_cons_of_mem _ hx)), items_cons, List.length_append]
    simp [Nat.add_assoc]
theorem takeTexts_one {s : ByteArray} : ∀ (n : Nat) (x : Int) (acc : List ByteArray), 0 ≤ x → x ≤ s.size → (takeTexts s n x acc).2.2 = 0 →
    ∃ (a : Nat) (L : List ByteArray) (rest : List UInt8), x = (a : Int) ∧ a ≤ s.size ∧ L.length = n ∧ (∀ t ∈ L, t.size ≤ 2000) ∧ s.data.toList.drop a = items L ++ rest ∧ takeTexts s n x acc = (acc ++ L, ((a + (items L).length : Nat) : Int), 0)
  | 0, x, acc, h0, h1, _ => by
    obtain ⟨a, rfl⟩ := Int.eq_ofNat_of_zero_le h0
    exact ⟨a, [], s.data.toList.drop a, rfl, by omega, rfl, by simp, by simp [items], by simp [takeTexts, items]⟩
  | n + 1, x, acc, h0, h1, h => by
    rw [takeTexts] at h ⊢
    by_cases ht : (takeText s x).2.2 = 0
    · rw [if_pos ht] at h ⊢
      obtain ⟨a, t, rest, rfl, ha, hts, hd, he⟩ := takeText_one ht
      rw [he] at h ⊢
      simp only at h ⊢
      have hle : a + (item t).length ≤ s.size := by
        have := drop_len s a
        rw [hd, List.length_append] at this
        have := List.length_pos_iff.2 (item_ne t)
        omega
      obtain ⟨a2, L, rest2, e2, ha2, hL, hLs, hd2, he2⟩ := takeTexts_one n _ _ (by omega) (by omega) h
      obtain rfl : a2 = a + (item t).length := by omega
      rw [drop_more hd] at hd2
      refine ⟨a, t :: L, rest2, rfl, ha, by simp [hL], fun z hz => ?_, by rw [hd, hd2, items_cons, List.append_assoc], ?_⟩
      · rcases List.mem_cons.1 hz with rfl | hz
        · exact hts
        · exact hLs z hz
      · rw [he2, items_cons, List.length_append]
        simp [Nat.add_assoc]
    · rw [if_neg ht] at h
      exact absurd h ht
theorem takeTexts_cut {s : ByteArray} : ∀ (L : List ByteArray) (a : Nat) (acc : List ByteArray) (p q : List UInt8), a ≤ s.size → s.data.toList.drop a = p → p ++ q = items L → q ≠ [] → (∀ t ∈ L, t.size ≤ 2000) →
    takeTexts s L.length (a : Int) acc = ([], 0, 31)
  | [], a, acc, p, q, _, _, hp, hq, _ => by
    simp only [items, List.map_nil, List.flatten_nil, List.append_eq_nil_iff] at hp
    exact absurd hp.2 hq
  | t :: L, a, acc, p, q, ha, h, hp, hq, ht => by
    rw [items_cons] at hp
    rw [List.length_cons, takeTexts]
    have htt := ht t List.mem_cons_self
    rcases List.append_eq_append_iff.1 hp with ⟨z, hz1, hz2⟩ | ⟨z, hz1, hz2⟩
    · by_cases hz : z = []
      · subst hz
        rw [List.append_nil] at hz1
        have h' : s.data.toList.drop a = item t ++ [] := by rw [h, List.append_nil]; exact hz1.symm
        have hle : a + (item t).length ≤ s.size := by
          have := drop_len s a
          rw [h', List.length_append] at this
          have := List.length_pos_iff.2 (item_ne t)
          omega
        rw [takeText_enc ha h' htt, if_pos rfl]
        exact takeTexts_cut L _ _ [] q hle (drop_more h') (by simpa using hz2) hq (fun x hx => ht x (List.mem_cons_of_mem _ hx))
      · rw [takeText_cut ha h hz1.symm hz htt]
        rfl
    · have h' : s.data.toList.drop a = item t ++ z := by rw [h, hz1]
      have hle : a + (item t).length ≤ s.size := by
        have := drop_len s a
        rw [h', List.length_append] at this
        have := List.length_pos_iff.2 (item_ne t)
        omega
      rw [takeText_enc ha h' htt, if_pos rfl]
      exact takeTexts_cut L _ _ z q hle (drop_more h') hz2.symm hq (fun x hx => ht x (List.mem_cons_of_mem _ hx))

/-- The form of a list. -/
def whole (L : List ByteArray) : List UInt8 := enc L.length ++ items L
theorem list_ok {L : List ByteArray} (h : L.length ≤ 4000) (ht : ∀ t ∈ L, t.size ≤ 2000) : list L = (⟨(whole L).toArray⟩, 0) := by
  rw [list, if_neg (by omega), texts_items L ht]
  rfl
theorem list_one {L : List ByteArray} (h : (list L).2 = 0) : L.length ≤ 4000 ∧ (∀ t ∈ L, t.size ≤ 2000) := by
  unfold list at h
  split at h
  · simp at h
  · cases hL : texts L with
    | none => rw [hL] at h; simp at h
    | some x => exact ⟨by omega, (texts_some L x hL).1⟩
theorem takeList_enc {s : ByteArray} {L : List ByteArray} {a : Nat} {rest : List UInt8} (ha : a ≤ s.size) (h : s.data.toList.drop a = whole L ++ rest) (hl : L.length ≤ 4000) (ht : ∀ t ∈ L, t.size ≤ 2000) :
    takeList s (a : Int) = (L, ((a + (whole L).length : Nat) : Int), 0) := by
  have h' : s.data.toList.drop a = enc L.length ++ (items L ++ rest) := by rw [h, whole, List.append_assoc]
  have hle : a + (enc L.length).length ≤ s.size := by
    have := drop_len s a
    rw [h', List.length_append] at this
    have := List.length_pos_iff.2 (enc_ne L.length)
    omega
  unfold takeList
  rw [takeNum_enc ha h' (by omega), if_pos rfl, if_neg (by simp only; omega)]
  simp only [Int.toNat_natCast]
  rw [takeTexts_enc L _ [] rest hle (drop_more h') ht, whole, List.length_append]
  simp [Nat.add_assoc]
theorem takeList_one {s : ByteArray} {x : Int} (h : (takeList s x).2.2 = 0) :
    ∃ (a : Nat) (L : List ByteArray) (rest : List UInt8), x = (a : Int) ∧ a ≤ s.size ∧ L.length ≤ 4000 ∧ (∀ t ∈ L, t.size ≤ 2000) ∧ s.data.toList.drop a = whole L ++ rest ∧ takeList s x = (L, ((a + (whole L).length : Nat) : Int), 0) := by
  unfold takeList at h ⊢
  by_cases h0 : (takeNum s x).2.2 = 0
  · rw [if_pos h0] at h ⊢
    obtain ⟨a, n, rest, rfl, ha, hn, hd, he⟩ := takeNum_one h0
    rw [he] at h ⊢
    simp only at h ⊢
    by_cases h1 : (n : Int) > 4000
    · rw [if_pos h1] at h; simp at h
    · rw [if_neg h1] at h ⊢
      have hle : a + (enc n).length ≤ s.size := by
        have := drop_len s a
        rw [hd, List.length_append] at this
        have := List.length_pos_iff.2 (enc_ne n)
        omega
      rw [Int.toNat_natCast] at h ⊢
      obtain ⟨a2, L, rest2, e2, ha2, hL, hLs, hd2, he2⟩ := takeTexts_one n _ _ (by omega) (by omega) h
      obtain rfl : a2 = a + (enc n).length := by omega
      rw [drop_more hd] at hd2
      refine ⟨a, L, rest2, rfl, ha, by omega, hLs, by rw [hd, hd2, whole, hL, List.append_assoc], ?_⟩
      rw [he2, whole, hL, List.length_append]
      simp [Nat.add_assoc]
  · rw [if_neg h0] at h
    exact absurd h h0
theorem takeList_cut {s : ByteArray} {L : List ByteArray} {a : Nat} {p q : List UInt8} (ha : a ≤ s.size) (h : s.data.toList.drop a = p) (hp : p ++ q = whole L) (hq : q ≠ []) (hl : L.length ≤ 4000) (ht : ∀ t ∈ L, t.size ≤ 2000) :
    takeList s (a : Int) = ([], 0, 31) := by
  rw [whole] at hp
  unfold takeList
  rcases List.append_eq_append_iff.1 hp with ⟨z, hz1, hz2⟩ | ⟨z, hz1, hz2⟩
  · by_cases hz : z = []
    · subst hz
      rw [List.append_nil] at hz1
      have h' : s.data.toList.drop a = enc L.length ++ [] := by rw [h, List.append_nil]; exact hz1.symm
      have hle : a + (enc L.length).length ≤ s.size := by
        have := drop_len s a
        rw [h', List.length_append] at this
        have := List.length_pos_iff.2 (enc_ne L.length)
        omega
      rw [takeNum_enc ha h' (by omega), if_pos rfl, if_neg (by simp only; omega)]
      simp only [Int.toNat_natCast]
      exact takeTexts_cut L _ _ [] q hle (drop_more h') (by simpa using hz2) hq ht
    · rw [takeNum_cut ha h hz1.symm hz (by omega)]
      rfl
  · have h' : s.data.toList.drop a = enc L.length ++ z := by rw [h, hz1]
    have hle : a + (enc L.length).length ≤ s.size := by
      have := drop_len s a
      rw [h', List.length_append] at this
      have := List.length_pos_iff.2 (enc_ne L.length)
      omega
    rw [takeNum_enc ha h' (by omega), if_pos rfl, if_neg (by simp only; omega)]
    simp only [Int.toNat_natCast]
    exact takeTexts_cut L _ _ z q hle (drop_more h') hz2.symm hq ht
end Go.Proofs.Ytahonoeiamjgbaa.Pk

-- Written by gprint.py, a program of this session, over the kit's print of the loaded functions. Not trusted: Lean checks it.
namespace Go.Proofs.Ytahonoeiamjgbaa.G
open Go.RowKit Go.Proofs.YtahonoeiamjgbaaW.PrintWords Go.Proofs.YtahonoeiamjgbaaW.PrintLast Go.Proofs.YtahonoeiamjgbaaW.PrintMore Go.Proofs.Ytahonoeiamjgbaa.Joins
attribute [local go_sem] max2_int min2_int max_two min_two max_three min_three max_four min_four   -- for this text's walks alone
set_option linter.unusedVariables false
set_option linter.unusedSimpArgs false



def errW : Option Int → Value
  | none => .nilIface
  | some c => .iface 0 (.int .i64 c)
theorem errW_none : errW none = .nilIface := rfl
theorem errW_some (c : Int) : errW (some c) = .iface 0 (.int .i64 c) := rfl

theorem info5 : (Try.prog.info? 5).map (fun i => (i.zero, i.size, i.bytes)) = some (some (.int .u8 0), 1, 1) := by kernel_rfl
theorem info9 : (Try.prog.info? 9).map (fun i => (i.zero, i.size, i.bytes)) = some (some (.string ⟨#[]⟩), 1, 16) := by kernel_rfl
-- the values' own types

end Go.Proofs.Ytahonoeiamjgbaa.G

-- Written by gprint.py, a program of this session, over the kit's print of the loaded functions. Not trusted: Lean checks it.
namespace Go.Proofs.Ytahonoeiamjgbaa.G
open Go.RowKit Go.Proofs.YtahonoeiamjgbaaW.PrintWords Go.Proofs.YtahonoeiamjgbaaW.PrintLast Go.Proofs.YtahonoeiamjgbaaW.PrintMore Go.Proofs.Ytahonoeiamjgbaa.Joins
attribute [local go_sem] max2_int min2_int max_two min_two max_three min_three max_four min_four   -- for this text's walks alone
set_option linter.unusedVariables false
set_option linter.unusedSimpArgs false

/-! ### pack_Num: function 89 -/
mutual
def pack_Num.j0 : Nat → Int → Bool → Option (ByteArray × Int)
  | 0, _, _ => none
  | k + 1, x0, x10 => if x10 = true then (some ((⟨#[]⟩ : ByteArray), 30)) else (pack_Num.l0 k x0 ([] : List Int))
def pack_Num.l0 : Nat → Int → List Int → Option (ByteArray × Int)
  | 0, _, _ => none
  | k + 1, x0, x4 => if x0 > 127 then (if x4.length < 140737488355328 then (pack_Num.l0 k (x0 / 128) (x4 ++ [Go.bits .or .u8 ((x0) % 256) 128])) else (none)) else (if x4.length < 140737488355328 then (some (strOfNums (x4 ++ [(x0) % 256]), 0)) else (none))
end
def pack_Num.f (k : Nat) (a0 : Int) : Option (ByteArray × Int) := if a0 < 0 then (pack_Num.j0 k a0 true) else (pack_Num.j0 k a0 (decide (a0 > 1125899906842624)))
theorem pack_Num.mono_l : ∀ k, (∀ y0 y1, LeO (pack_Num.j0 k y0 y1) (pack_Num.j0 (k + 1) y0 y1)) ∧ (∀ y0 y1, LeO (pack_Num.l0 k y0 y1) (pack_Num.l0 (k + 1) y0 y1))
  | 0 => ⟨fun _ _ r h => by simp [pack_Num.j0] at h, fun _ _ r h => by simp [pack_Num.l0] at h⟩
  | k + 1 => by
    obtain ⟨ih0, ih1⟩ := pack_Num.mono_l k
    refine ⟨?_, ?_⟩
    · intro y0 y1
      unfold pack_Num.j0
      repeat' first
      | (with_reducible exact ih0 _ _)
      | (with_reducible exact ih1 _ _)
      | (with_reducible exact LeO.refl _)
      | (with_reducible exact LeO.none _)
      | (with_reducible refine LeO.ite ?_ ?_)
      | (with_reducible refine LeO.bind ?_ (fun _ => ?_))
      | exact ih0 _ _
      | exact ih1 _ _
      | exact LeO.none _
      | refine LeO.ite ?_ ?_
      | refine LeO.bind ?_ (fun _ => ?_)
    · intro y0 y1
      unfold pack_Num.l0
      repeat' first
      | (with_reducible exact ih0 _ _)
      | (with_reducible exact ih1 _ _)
      | (with_reducible exact LeO.refl _)
      | (with_reducible exact LeO.none _)
      | (with_reducible refine LeO.ite ?_ ?_)
      | (with_reducible refine LeO.bind ?_ (fun _ => ?_))
      | exact ih0 _ _
      | exact ih1 _ _
      | exact LeO.none _
      | refine LeO.ite ?_ ?_
      | refine LeO.bind ?_ (fun _ => ?_)
theorem pack_Num.mono : ∀ a0 k, LeO (pack_Num.f k a0) (pack_Num.f (k + 1) a0) := by
  intro a0 k
  obtain ⟨ih0, ih1⟩ := pack_Num.mono_l k
  unfold pack_Num.f
  repeat' first
      | (with_reducible exact ih0 _ _)
      | (with_reducible exact ih1 _ _)
      | (with_reducible exact LeO.refl _)
      | (with_reducible exact LeO.none _)
      | (with_reducible refine LeO.ite ?_ ?_)
      | (with_reducible refine LeO.bind ?_ (fun _ => ?_))
      | exact ih0 _ _
      | exact ih1 _ _
      | exact LeO.none _
      | refine LeO.ite ?_ ?_
      | refine LeO.bind ?_ (fun _ => ?_)
set_option maxHeartbeats 8000000 in
set_option maxRecDepth 100000 in
theorem pack_Num.calls (k : Nat) (a0 : Int) (r1 : ByteArray) (r2 : Int) (w : World) (h : pack_Num.f k a0 = some (r1, r2)) :
    Calls Try.prog 89 #[.int .i64 a0] w fun e w' => e = .returned (.tuple #[.string r1, .int .i64 r2]) ∧ Below w.heap.size w w' := by
  have HB := Aside0.mk (Below.refl w.heap.size w)
  have H : (if a0 < 0 then (pack_Num.j0 k a0 true) else (pack_Num.j0 k a0 (decide (a0 > 1125899906842624)))) = some (r1, r2) := h
  clear h
  have HC2 := Aside0.mk H
  clear H
  go_enter Try.func89, Try.ntmps89
  go_upto_region 1 with (fail)
  go_cut [10] (fun v10 wc => ∃ (kq : Nat) (x10_1 : Bool), v10 = .bool x10_1 ∧ Aside0 (pack_Num.j0 kq a0 x10_1 = some (r1, r2)) ∧ Aside0 (kq ≤ k) ∧ Aside0 (Below w.heap.size w wc))
  case first =>
    have H := HC2.out
    clear HC2
    by_cases c3 : a0 < 0
    · rw [if_pos c3] at H
      have c3b0 : decide (a0 < 0) = true := decide_eq_true c3
      clear c3
      (first | rw [c3b0] | (simp only [i64_w, i32_w]; rw [c3b0]) | skip)
      have H' := Aside0.mk H
      clear H
      go_wp2
      go_meet
      case rel => exact ⟨_, (true), (by first | rfl | (simp; done) | (simp [*]; done)), H', ⟨by first | omega | exact Nat.le_refl _⟩, ⟨by repeat (first | (with_reducible first | exact HB.out | apply below_alloc | apply pw_below_drewN | apply below_drew1) | exact HB.out)⟩⟩
    · rw [if_neg c3] at H
      have c3b0 : decide (a0 < 0) = false := decide_eq_false c3
      clear c3
      (first | rw [c3b0] | (simp only [i64_w, i32_w]; rw [c3b0]) | skip)
      have H' := Aside0.mk H
      clear H
      go_wp2
      go_meet
      case rel => exact ⟨_, (decide (a0 > 1125899906842624)), (by first | rfl | (simp; done) | (simp [*]; done)), H', ⟨by first | omega | exact Nat.le_refl _⟩, ⟨by repeat (first | (with_reducible first | exact HB.out | apply below_alloc | apply pw_below_drewN | apply below_drew1) | exact HB.out)⟩⟩
  case rest =>
    clear HC2
    try clear p2
    try clear c3
    try clear c3b0
    obtain ⟨kq, x10_1, rfl, HA, HJ1, HB⟩ := hcut
    cases kq with
    | zero => exact absurd HA.out (by simp [pack_Num.j0])
    | succ kj1 =>
      have H := HA.out
      clear HA
      simp only [pack_Num.j0] at H
      by_cases c4 : x10_1 = true
      · subst c4
        have H1 : (some ((⟨#[]⟩ : ByteArray), 30)) = some (r1, r2) := by rw [if_pos rfl] at H; exact H
        clear H
        have H := H1
        clear H1
        simp only [Option.some.injEq, Prod.mk.injEq] at H
        obtain ⟨rfl, rfl⟩ := H
        go_wp2
        go_ret2
        exact ⟨by first | rfl | (simp [errW_none, errW_some] <;> rfl) | (simp [*, errW_none, errW_some] <;> rfl), by repeat (first | (with_reducible first | exact HB.out | apply below_alloc | apply pw_below_drewN | apply below_drew1) | exact HB.out)⟩
      · replace c4 := Bool.eq_false_iff.mpr c4
        subst c4
        have H1 : (pack_Num.l0 kj1 a0 ([] : List Int)) = some (r1, r2) := by rw [if_neg (show ¬ (false = true) by decide)] at H; exact H
        clear H
        have H := H1
        clear H1
        have H' := Aside0.mk H
        clear H
        go_wp2
        go_loopg [0, 4] kj1 (fun kq v0 v4 w' => ∃ (x0_2 : Int) (x4_2 : List Int), v0 = .int .i64 x0_2 ∧ Aside0 (pack_Num.l0 kq x0_2 x4_2 = some (r1, r2)) ∧ Aside0 (kq ≤ kj1) ∧ Aside0 (Kd.R (Kd.int .u8) 5 w' w.heap.size (fun _ => True) v4 x4_2) ∧ Aside0 (Below w.heap.size w w'))
        case atStart => exact ⟨(a0), (([] : List Int)), (by first | rfl | (simp; done) | (simp [*]; done)), H', ⟨Nat.le_refl _⟩, ⟨by first | exact Kd.R_nil _ _ _ _ _ | exact Kd.N_nil _ _ _ _ _ | exact Kd.V_nil _ _ _ _ _ | exact Kd.Q_nil _ _ _ _ _ | exact Kd.S_nil _ _ _ _ _⟩, ⟨by repeat (first | (with_reducible first | exact HB.out | apply below_alloc | apply pw_below_drewN | apply below_drew1) | exact HB.out)⟩⟩
        case round =>
          clear H'
          try clear p2
          try clear c3
          try clear c3b0
          try clear c4
          try clear p2
          obtain ⟨x0_2, x4_2, rfl, HA, HK2, HO_4, HB⟩ := hrel
          cases gk with
          | zero => exact absurd HA.out (by simp [pack_Num.l0])
          | succ k2 =>
            have H := HA.out
            clear HA
            simp only [pack_Num.l0] at H
            by_cases c5 : x0_2 > 127
            · rw [if_pos c5] at H
              have c5b0 : decide (127 < x0_2) = true := decide_eq_true c5
              clear c5
              by_cases c6 : x4_2.length < 140737488355328
              · rw [if_pos c6] at H
                have LMc6 := Aside0.mk c6
                clear c6
                obtain ⟨y101, hy101⟩ : ∃ y_ : List Int, y_ = (x4_2 ++ [Go.bits .or .u8 ((x0_2) % 256) 128]) := ⟨_, rfl⟩
                replace H : (pack_Num.l0 k2 (x0_2 / 128) y101) = some (r1, r2) := by first | (rw [hy101]; with_reducible exact H) | (have H2_ := (Option.bind_some _ _).symm.trans H; rw [hy101]; with_reducible exact H2_) | (have H2_ := (Option.bind_some _ _).symm.trans H; with_reducible exact H2_) | with_reducible exact H | (rw [hy101]; exact H) | exact H
                have Ny101 := Aside0.mk hy101
                clear hy101
                have H' := Aside0.mk H
                clear H
                go_wp2_with (first | ((with_reducible refine gate_builtin (b := .append) (xs := #[.tmp 15, .tmp 19]) rfl ?_); at_builtin; refine Kd.R_append (Kd.int .u8) (w0 := w) w.heap.size rfl (.tmp 15) (.tmp 19) 152 5 (.int .u8 0) 1 rfl Try.underlying152 info5 rfl (by decide) (by omega) u4 x4_2 (Go.bits .or .u8 ((x0_2) % 256) 128) [.int .u8 (Go.bits .or .u8 ((x0_2) % 256) 128)] (fun _ => True) (fun _ => False) rfl rfl ?aP (fun _ hk => hk.elim) ?aF ?aO ?aB ?aS ?aL ?_; (case aP => exact rfl); (case aB => exact (by repeat (first | (with_reducible first | exact HB.out | apply below_alloc | apply pw_below_drewN | apply below_drew1) | exact HB.out))); (case aF => exact (fun _ _ => trivial)); (case aO => exact (by (with_reducible repeat (first | apply Kd.R_alloc | apply Kd.R_drewN | apply Kd.R_drew)); exact HO_4.out)); (case aS => exact (below_size (by repeat (first | (with_reducible first | exact HB.out | apply below_alloc | apply pw_below_drewN | apply below_drew1) | exact HB.out)))); (case aL => have := LMc6.out; omega); intro v102 w7 ho hb hg hat; rw [← Ny101.out] at ho; have n0_ := Aside0.mk (hb); have n1_ := Aside0.mk (ho); clear HB; clear HO_4; have HB := n0_; have HO103 := n1_; clear n0_ n1_; clear ho hb hg hat))
                go_roundg k2
                case measure => have := HJ1.out; have := HK2.out; omega
                case rel => exact ⟨(x0_2 / 128), (y101), (by first | rfl | (simp; done) | (simp [*]; done)), H', ⟨by have := HJ1.out; have := HK2.out; omega⟩, ⟨by (with_reducible repeat (first | apply Kd.R_alloc | apply Kd.R_drewN | apply Kd.R_drew)); exact HO103.out⟩, ⟨by repeat (first | (with_reducible first | exact HB.out | apply below_alloc | apply pw_below_drewN | apply below_drew1) | exact HB.out)⟩⟩
              · rw [if_neg c6] at H
                exact absurd H (by simp)
            · rw [if_neg c5] at H
              have c5b0 : decide (127 < x0_2) = false := decide_eq_false c5
              clear c5
              by_cases c8 : x4_2.length < 140737488355328
              · rw [if_pos c8] at H
                have LMc8 := Aside0.mk c8
                clear c8
                obtain ⟨y104, hy104⟩ : ∃ y_ : List Int, y_ = (x4_2 ++ [(x0_2) % 256]) := ⟨_, rfl⟩
                replace H : (some (strOfNums y104, 0)) = some (r1, r2) := by first | (rw [hy104]; with_reducible exact H) | (have H2_ := (Option.bind_some _ _).symm.trans H; rw [hy104]; with_reducible exact H2_) | (have H2_ := (Option.bind_some _ _).symm.trans H; with_reducible exact H2_) | with_reducible exact H | (rw [hy104]; exact H) | exact H
                have Ny104 := Aside0.mk hy104
                clear hy104
                simp only [Option.some.injEq, Prod.mk.injEq] at H
                obtain ⟨rfl, rfl⟩ := H
                go_wp2_with (first | ((with_reducible refine gate_builtin (b := .append) (xs := #[.tmp 21, .tmp 24]) rfl ?_); at_builtin; refine Kd.R_append (Kd.int .u8) (w0 := w) w.heap.size rfl (.tmp 21) (.tmp 24) 152 5 (.int .u8 0) 1 rfl Try.underlying152 info5 rfl (by decide) (by omega) u4 x4_2 ((x0_2) % 256) [.int .u8 ((x0_2) % 256)] (fun _ => True) (fun _ => False) rfl rfl ?aP (fun _ hk => hk.elim) ?aF ?aO ?aB ?aS ?aL ?_; (case aP => exact rfl); (case aB => exact (by repeat (first | (with_reducible first | exact HB.out | apply below_alloc | apply pw_below_drewN | apply below_drew1) | exact HB.out))); (case aF => exact (fun _ _ => trivial)); (case aO => exact (by (with_reducible repeat (first | apply Kd.R_alloc | apply Kd.R_drewN | apply Kd.R_drew)); exact HO_4.out)); (case aS => exact (below_size (by repeat (first | (with_reducible first | exact HB.out | apply below_alloc | apply pw_below_drewN | apply below_drew1) | exact HB.out)))); (case aL => have := LMc8.out; omega); intro v105 w9 ho hb hg hat; rw [← Ny104.out] at ho; have n0_ := Aside0.mk (hb); have n1_ := Aside0.mk (ho); clear HB; clear HO_4; have HB := n0_; have HO106 := n1_; clear n0_ n1_; clear ho hb hg hat; have hcv10 := own_string (P := Try.prog) Try.underlying152 Try.underlying5 Try.underlying9 (Kd.own_of_R HO106.out)))
                go_ret2
                exact ⟨by first | rfl | (simp [errW_none, errW_some] <;> rfl) | (simp [*, errW_none, errW_some] <;> rfl), by repeat (first | (with_reducible first | exact HB.out | apply below_alloc | apply pw_below_drewN | apply below_drew1) | exact HB.out)⟩
              · rw [if_neg c8] at H
                exact absurd H (by simp)

/-! ### pack_TakeNum: function 91 -/
mutual
def pack_TakeNum.j0 : Nat → ByteArray → Int → Bool → Option (Int × Int × Int)
  | 0, _, _, _ => none
  | k + 1, x0, x1, x17 => if x17 = true then (some (0, 0, 1)) else (pack_TakeNum.l0 k x0 x1 0 (mn 8 (wrap64 ((x0.size : Int) - x1))) 0)
def pack_TakeNum.l0 : Nat → ByteArray → Int → Int → Int → Int → Option (Int × Int × Int)
  | 0, _, _, _, _, _ => none
  | k + 1, x0, x1, x7, x22, x23 => if x23 < x22 then (if 0 ≤ (wrap64 (x1 + x23)) then (if (wrap64 (x1 + x23)) < (x0.size : Int) then (if 0 ≤ (wrap64 (7 * x23)) then (if (bt x0 (wrap64 (x1 + x23))) > 127 then (pack_TakeNum.l0 k x0 x1 (Go.bits .or .i64 x7 (shl .i64 (wrap64 (Go.bits .and .u8 (bt x0 (wrap64 (x1 + x23))) 127)) (wrap64 (7 * x23)))) x22 (wrap64 (x23 + 1))) else (if (bt x0 (wrap64 (x1 + x23))) = 0 then (pack_TakeNum.j2 k x1 (Go.bits .or .i64 x7 (shl .i64 (wrap64 (Go.bits .and .u8 (bt x0 (wrap64 (x1 + x23))) 127)) (wrap64 (7 * x23)))) x23 (decide (x23 > 0))) else (pack_TakeNum.j2 k x1 (Go.bits .or .i64 x7 (shl .i64 (wrap64 (Go.bits .and .u8 (bt x0 (wrap64 (x1 + x23))) 127)) (wrap64 (7 * x23)))) x23 false))) else (none)) else (none)) else (none)) else (if (wrap64 ((x0.size : Int) - x1)) ≥ 8 then (some (0, 0, 32)) else (some (0, 0, 31)))
def pack_TakeNum.j2 : Nat → Int → Int → Int → Bool → Option (Int × Int × Int)
  | 0, _, _, _, _ => none
  | k + 1, x1, x7, x8, x47 => if x47 = true then (some (0, 0, 32)) else (if x7 > 1125899906842624 then (some (0, 0, 32)) else (some (x7, wrap64 ((wrap64 (x1 + x8)) + 1), 0)))
end
def pack_TakeNum.f (k : Nat) (a0 : ByteArray) (a1 : Int) : Option (Int × Int × Int) := if a1 < 0 then (pack_TakeNum.j0 k a0 a1 true) else (pack_TakeNum.j0 k a0 a1 (decide (a1 > (a0.size : Int))))
theorem pack_TakeNum.mono_l : ∀ k, (∀ y0 y1 y2, LeO (pack_TakeNum.j0 k y0 y1 y2) (pack_TakeNum.j0 (k + 1) y0 y1 y2)) ∧ (∀ y0 y1 y2 y3 y4, LeO (pack_TakeNum.l0 k y0 y1 y2 y3 y4) (pack_TakeNum.l0 (k + 1) y0 y1 y2 y3 y4)) ∧ (∀ y0 y1 y2 y3, LeO (pack_TakeNum.j2 k y0 y1 y2 y3) (pack_TakeNum.j2 (k + 1) y0 y1 y2 y3))
  | 0 => ⟨fun _ _ _ r h => by simp [pack_TakeNum.j0] at h, fun _ _ _ _ _ r h => by simp [pack_TakeNum.l0] at h, fun _ _ _ _ r h => by simp [pack_TakeNum.j2] at h⟩
  | k + 1 => by
    obtain ⟨ih0, ih1, ih2⟩ := pack_TakeNum.mono_l k
    refine ⟨?_, ?_, ?_⟩
    · intro y0 y1 y2
      unfold pack_TakeNum.j0
      repeat' first
      | (with_reducible exact ih0 _ _ _)
      | (with_reducible exact ih1 _ _ _ _ _)
      | (with_reducible exact ih2 _ _ _ _)
      | (with_reducible exact LeO.refl _)
      | (with_reducible exact LeO.none _)
      | (with_reducible refine LeO.ite ?_ ?_)
      | (with_reducible refine LeO.bind ?_ (fun _ => ?_))
      | exact ih0 _ _ _
      | exact ih1 _ _ _ _ _
      | exact ih2 _ _ _ _
      | exact LeO.none _
      | refine LeO.ite ?_ ?_
      | refine LeO.bind ?_ (fun _ => ?_)
    · intro y0 y1 y2 y3 y4
      unfold pack_TakeNum.l0
      repeat' first
      | (with_reducible exact ih0 _ _ _)
      | (with_reducible exact ih1 _ _ _ _ _)
      | (with_reducible exact ih2 _ _ _ _)
      | (with_reducible exact LeO.refl _)
      | (with_reducible exact LeO.none _)
      | (with_reducible refine LeO.ite ?_ ?_)
      | (with_reducible refine LeO.bind ?_ (fun _ => ?_))
      | exact ih0 _ _ _
      | exact ih1 _ _ _ _ _
      | exact ih2 _ _ _ _
      | exact LeO.none _
      | refine LeO.ite ?_ ?_
      | refine LeO.bind ?_ (fun _ => ?_)
    · intro y0 y1 y2 y3
      unfold pack_TakeNum.j2
      repeat' first
      | (with_reducible exact ih0 _ _ _)
      | (with_reducible exact ih1 _ _ _ _ _)
      | (with_reducible exact ih2 _ _ _ _)
      | (with_reducible exact LeO.refl _)
      | (with_reducible exact LeO.none _)
      | (with_reducible refine LeO.ite ?_ ?_)
      | (with_reducible refine LeO.bind ?_ (fun _ => ?_))
      | exact ih0 _ _ _
      | exact ih1 _ _ _ _ _
      | exact ih2 _ _ _ _
      | exact LeO.none _
      | refine LeO.ite ?_ ?_
      | refine LeO.bind ?_ (fun _ => ?_)
theorem pack_TakeNum.mono : ∀ a0 a1 k, LeO (pack_TakeNum.f k a0 a1) (pack_TakeNum.f (k + 1) a0 a1) := by
  intro a0 a1 k
  obtain ⟨ih0, ih1, ih2⟩ := pack_TakeNum.mono_l k
  unfold pack_TakeNum.f
  repeat' first
      | (with_reducible exact ih0 _ _ _)
      | (with_reducible exact ih1 _ _ _ _ _)
      | (with_reducible exact ih2 _ _ _ _)
      | (with_reducible exact LeO.refl _)
      | (with_reducible exact LeO.none _)
      | (with_reducible refine LeO.ite ?_ ?_)
      | (with_reducible refine LeO.bind ?_ (fun _ => ?_))
      | exact ih0 _ _ _
      | exact ih1 _ _ _ _ _
      | exact ih2 _ _ _ _
      | exact LeO.none _
      | refine LeO.ite ?_ ?_
      | refine LeO.bind ?_ (fun _ => ?_)
set_option maxHeartbeats 8000000 in
set_option maxRecDepth 100000 in
theorem pack_TakeNum.calls (k : Nat) (a0 : ByteArray) (a1 : Int) (r1 : Int) (r2 : Int) (r3 : Int) (w : World) (h : pack_TakeNum.f k a0 a1 = some (r1, r2, r3)) :
    Calls Try.prog 91 #[.string a0, .int .i64 a1] w fun e w' => e = .returned (.tuple #[.int .i64 r1, .int .i64 r2, .int .i64 r3]) ∧ Below w.heap.size w w' := by
  have HB := Aside0.mk (Below.refl w.heap.size w)
  have H : (if a1 < 0 then (pack_TakeNum.j0 k a0 a1 true) else (pack_TakeNum.j0 k a0 a1 (decide (a1 > (a0.size : Int))))) = some (r1, r2, r3) := h
  clear h
  have HC3 := Aside0.mk H
  clear H
  go_enter Try.func91, Try.ntmps91
  go_upto_region 1 with (fail)
  go_cut [17] (fun v17 wc => ∃ (kq : Nat) (x17_2 : Bool), v17 = .bool x17_2 ∧ Aside0 (pack_TakeNum.j0 kq a0 a1 x17_2 = some (r1, r2, r3)) ∧ Aside0 (kq ≤ k) ∧ Aside0 (Below w.heap.size w wc))
  case first =>
    have H := HC3.out
    clear HC3
    by_cases c4 : a1 < 0
    · rw [if_pos c4] at H
      have c4b0 : decide (a1 < 0) = true := decide_eq_true c4
      clear c4
      (first | rw [c4b0] | (simp only [i64_w, i32_w]; rw [c4b0]) | skip)
      have H' := Aside0.mk H
      clear H
      go_wp2
      go_meet
      case rel => exact ⟨_, (true), (by first | rfl | (simp; done) | (simp [*]; done)), H', ⟨by first | omega | exact Nat.le_refl _⟩, ⟨by repeat (first | (with_reducible first | exact HB.out | apply below_alloc | apply pw_below_drewN | apply below_drew1) | exact HB.out)⟩⟩
    · rw [if_neg c4] at H
      have c4b0 : decide (a1 < 0) = false := decide_eq_false c4
      clear c4
      (first | rw [c4b0] | (simp only [i64_w, i32_w]; rw [c4b0]) | skip)
      have H' := Aside0.mk H
      clear H
      go_wp2
      go_meet
      case rel => exact ⟨_, (decide (a1 > (a0.size : Int))), (by first | rfl | (simp; done) | (simp [*]; done)), H', ⟨by first | omega | exact Nat.le_refl _⟩, ⟨by repeat (first | (with_reducible first | exact HB.out | apply below_alloc | apply pw_below_drewN | apply below_drew1) | exact HB.out)⟩⟩
  case rest =>
    clear HC3
    try clear p2
    try clear c4
    try clear c4b0
    obtain ⟨kq, x17_2, rfl, HA, HJ2, HB⟩ := hcut
    cases kq with
    | zero => exact absurd HA.out (by simp [pack_TakeNum.j0])
    | succ kj2 =>
      have H := HA.out
      clear HA
      simp only [pack_TakeNum.j0] at H
      by_cases c5 : x17_2 = true
      · subst c5
        have H1 : (some (0, 0, 1)) = some (r1, r2, r3) := by rw [if_pos rfl] at H; exact H
        clear H
        have H := H1
        clear H1
        simp only [Option.some.injEq, Prod.mk.injEq] at H
        obtain ⟨rfl, rfl, rfl⟩ := H
        go_wp2
        go_ret3
        exact ⟨by first | rfl | (simp [errW_none, errW_some] <;> rfl) | (simp [*, errW_none, errW_some] <;> rfl), by repeat (first | (with_reducible first | exact HB.out | apply below_alloc | apply pw_below_drewN | apply below_drew1) | exact HB.out)⟩
      · replace c5 := Bool.eq_false_iff.mpr c5
        subst c5
        have H1 : (pack_TakeNum.l0 kj2 a0 a1 0 (mn 8 (wrap64 ((a0.size : Int) - a1))) 0) = some (r1, r2, r3) := by rw [if_neg (show ¬ (false = true) by decide)] at H; exact H
        clear H
        have H := H1
        clear H1
        obtain ⟨ji6, hji6⟩ : ∃ j_ : Int, (mn 8 (wrap64 ((a0.size : Int) - a1))) = j_ := ⟨_, rfl⟩
        replace H : (pack_TakeNum.l0 kj2 a0 a1 0 ji6 0) = some (r1, r2, r3) := by first | (rw [hji6] at H; exact H) | (simp only [hji6] at H ⊢; exact H)
        have hji6_ : (if (wrap64 ((a0.size : Int) - a1)) < 8 then (wrap64 ((a0.size : Int) - a1)) else 8) = ji6 := hji6
        have H' := Aside0.mk H
        clear H
        go_wp2
        go_loopg [7, 23] kj2 (fun kq v7 v23 w' => ∃ (x7_2 : Int) (x23_2 : Int), v7 = .int .i64 x7_2 ∧ v23 = .int .i64 x23_2 ∧ Aside0 (pack_TakeNum.l0 kq a0 a1 x7_2 ji6 x23_2 = some (r1, r2, r3)) ∧ Aside0 (kq ≤ kj2) ∧ Aside0 (Below w.heap.size w w'))
        case atStart => exact ⟨(0), (0), (by first | rfl | (simp; done) | (simp [*]; done)), (by first | rfl | (simp; done) | (simp [*]; done)), H', ⟨Nat.le_refl _⟩, ⟨by repeat (first | (with_reducible first | exact HB.out | apply below_alloc | apply pw_below_drewN | apply below_drew1) | exact HB.out)⟩⟩
        case round =>
          clear H'
          try clear p2
          try clear c4
          try clear c4b0
          try clear c5
          try clear p6
          try clear p2
          obtain ⟨x7_2, x23_2, rfl, rfl, HA, HK2, HB⟩ := hrel
          cases gk with
          | zero => exact absurd HA.out (by simp [pack_TakeNum.l0])
          | succ k2 =>
            have H := HA.out
            clear HA
            simp only [pack_TakeNum.l0] at H
            by_cases c7 : x23_2 < ji6
            · rw [if_pos c7] at H
              have c7b0 : decide (x23_2 < ji6) = true := decide_eq_true c7
              clear c7
              obtain ⟨ji8, hji8⟩ : ∃ j_ : Int, (wrap64 (a1 + x23_2)) = j_ := ⟨_, rfl⟩
              replace H : (if 0 ≤ (ji8) then (if (ji8) < (a0.size : Int) then (if 0 ≤ (wrap64 (7 * x23_2)) then (if (bt a0 (ji8)) > 127 then (pack_TakeNum.l0 k2 a0 a1 (Go.bits .or .i64 x7_2 (shl .i64 (wrap64 (Go.bits .and .u8 (bt a0 (ji8)) 127)) (wrap64 (7 * x23_2)))) ji6 (wrap64 (x23_2 + 1))) else (if (bt a0 (ji8)) = 0 then (pack_TakeNum.j2 k2 a1 (Go.bits .or .i64 x7_2 (shl .i64 (wrap64 (Go.bits .and .u8 (bt a0 (ji8)) 127)) (wrap64 (7 * x23_2)))) x23_2 (decide (x23_2 > 0))) else (pack_TakeNum.j2 k2 a1 (Go.bits .or .i64 x7_2 (shl .i64 (wrap64 (Go.bits .and .u8 (bt a0 (ji8)) 127)) (wrap64 (7 * x23_2)))) x23_2 false))) else (none)) else (none)) else (none)) = some (r1, r2, r3) := by first | (rw [hji8] at H; exact H) | (simp only [hji8] at H ⊢; exact H)
              have hji8w : (IntKind.i64.wrap (a1 + x23_2)) = ji8 := (i64_w _).trans hji8
              by_cases c9 : 0 ≤ (ji8)
              · rw [if_pos c9] at H
                have c9b0 : decide (0 ≤ (ji8)) = true := decide_eq_true c9
                clear c9
                by_cases c10 : (ji8) < (a0.size : Int)
                · rw [if_pos c10] at H
                  have c10b0 : decide ((ji8) < (a0.size : Int)) = true := decide_eq_true c10
                  clear c10
                  obtain ⟨ji12, hji12⟩ : ∃ j_ : Int, (wrap64 (7 * x23_2)) = j_ := ⟨_, rfl⟩
                  replace H : (if 0 ≤ (ji12) then (if (bt a0 (ji8)) > 127 then (pack_TakeNum.l0 k2 a0 a1 (Go.bits .or .i64 x7_2 (shl .i64 (wrap64 (Go.bits .and .u8 (bt a0 (ji8)) 127)) (ji12))) ji6 (wrap64 (x23_2 + 1))) else (if (bt a0 (ji8)) = 0 then (pack_TakeNum.j2 k2 a1 (Go.bits .or .i64 x7_2 (shl .i64 (wrap64 (Go.bits .and .u8 (bt a0 (ji8)) 127)) (ji12))) x23_2 (decide (x23_2 > 0))) else (pack_TakeNum.j2 k2 a1 (Go.bits .or .i64 x7_2 (shl .i64 (wrap64 (Go.bits .and .u8 (bt a0 (ji8)) 127)) (ji12))) x23_2 false))) else (none)) = some (r1, r2, r3) := by first | (rw [hji12] at H; exact H) | (simp only [hji12] at H ⊢; exact H)
                  have hji12w : (IntKind.i64.wrap (7 * x23_2)) = ji12 := (i64_w _).trans hji12
                  by_cases c13 : 0 ≤ (ji12)
                  · rw [if_pos c13] at H
                    have c13b0 := eq_true c13
                    have c13b1 : decide (0 ≤ (ji12)) = true := decide_eq_true c13
                    clear c13
                    obtain ⟨ji14, hji14⟩ : ∃ j_ : Int, (shl .i64 (wrap64 (Go.bits .and .u8 (bt a0 (ji8)) 127)) (ji12)) = j_ := ⟨_, rfl⟩
                    replace H : (if (bt a0 (ji8)) > 127 then (pack_TakeNum.l0 k2 a0 a1 (Go.bits .or .i64 x7_2 (ji14)) ji6 (wrap64 (x23_2 + 1))) else (if (bt a0 (ji8)) = 0 then (pack_TakeNum.j2 k2 a1 (Go.bits .or .i64 x7_2 (ji14)) x23_2 (decide (x23_2 > 0))) else (pack_TakeNum.j2 k2 a1 (Go.bits .or .i64 x7_2 (ji14)) x23_2 false))) = some (r1, r2, r3) := by first | (rw [hji14] at H; exact H) | (simp only [hji14] at H ⊢; exact H)
                    have hji14_ : (IntKind.i64.wrap ((wrap64 (Go.bits .and .u8 (bt a0 (ji8)) 127)) * 2 ^ min (ji12).toNat 64)) = ji14 := hji14
                    have hji14z : (ji12) ≤ 64 → (IntKind.i64.wrap ((wrap64 (Go.bits .and .u8 (bt a0 (ji8)) 127)) * 2 ^ (ji12).toNat)) = ji14 := shl_small hji14
                    have hji14y : (wrap64 ((wrap64 (Go.bits .and .u8 (bt a0 (ji8)) 127)) * 2 ^ min (ji12).toNat 64)) = ji14 := (i64_w _).symm.trans hji14_
                    have hji14x : (ji12) ≤ 64 → (wrap64 ((wrap64 (Go.bits .and .u8 (bt a0 (ji8)) 127)) * 2 ^ (ji12).toNat)) = ji14 := fun h_ => (i64_w _).symm.trans (hji14z h_)
                    by_cases c15 : (bt a0 (ji8)) > 127
                    · rw [if_pos c15] at H
                      have c15b0 : decide (127 < (bt a0 (ji8))) = true := decide_eq_true c15
                      clear c15
                      have H' := Aside0.mk H
                      clear H
                      have p11 : 0 ≤ ((ji8) : Int) := of_decide_eq_true (by first | (with_reducible assumption) | assumption)
                      have q11 : (ji8) < (a0.size : Int) := of_decide_eq_true (by first | (with_reducible assumption) | assumption)
                      have hx11 := bt_at a0 (ji8)
                      replace p11 := eq_true p11
                      replace q11 := eq_true q11
                      go_wp2
                      go_roundg k2
                      case measure => have := HJ2.out; have := HK2.out; omega
                      case rel => exact ⟨(Go.bits .or .i64 x7_2 (ji14)), (wrap64 (x23_2 + 1)), (by first | rfl | (simp; done) | (simp only [← hji14] <;> (first | rfl | simp)) | (simp [*]; done)), (by first | rfl | (simp; done) | (simp [*]; done)), H', ⟨by have := HJ2.out; have := HK2.out; omega⟩, ⟨by repeat (first | (with_reducible first | exact HB.out | apply below_alloc | apply pw_below_drewN | apply below_drew1) | exact HB.out)⟩⟩
                    · rw [if_neg c15] at H
                      have c15b0 : decide (127 < (bt a0 (ji8))) = false := decide_eq_false c15
                      clear c15
                      have HC16 := Aside0.mk H
                      clear H
                      have p11 : 0 ≤ ((ji8) : Int) := of_decide_eq_true (by first | (with_reducible assumption) | assumption)
                      have q11 : (ji8) < (a0.size : Int) := of_decide_eq_true (by first | (with_reducible assumption) | assumption)
                      have hx11 := bt_at a0 (ji8)
                      replace p11 := eq_true p11
                      replace q11 := eq_true q11
                      go_upto_region 11 with (fail)
                      go_cut [47] (fun v47 wc => ∃ (kq : Nat) (x47_15 : Bool), v47 = .bool x47_15 ∧ Aside0 (pack_TakeNum.j2 kq a1 (Go.bits .or .i64 x7_2 (ji14)) x23_2 x47_15 = some (r1, r2, r3)) ∧ Aside0 (kq ≤ k2) ∧ Aside0 (Below w.heap.size w wc))
                      case first =>
                        have H := HC16.out
                        clear HC16
                        by_cases c17 : (bt a0 (ji8)) = 0
                        · rw [if_pos c17] at H
                          have c17b0 : ((bt a0 (ji8)) == 0) = true := beq_iff_eq.mpr c17
                          have c17b1 : ((bt a0 (ji8)) != 0) = false := bne_eq_false_iff_eq.mpr c17
                          clear c17
                          (first | rw [c17b0] | (simp only [i64_w, i32_w]; rw [c17b0]) | skip)
                          have H' := Aside0.mk H
                          clear H
                          go_wp2
                          go_meet
                          case rel => exact ⟨_, (decide (x23_2 > 0)), (by first | rfl | (simp; done) | (simp [*]; done)), H', ⟨by have := HJ2.out; have := HK2.out; first | omega | exact Nat.le_refl _⟩, ⟨by repeat (first | (with_reducible first | exact HB.out | apply below_alloc | apply pw_below_drewN | apply below_drew1) | exact HB.out)⟩⟩
                        · rw [if_neg c17] at H
                          have c17b0 : ((bt a0 (ji8)) == 0) = false := beq_eq_false_iff_ne.mpr c17
                          have c17b1 : ((bt a0 (ji8)) != 0) = true := bne_iff_ne.mpr c17
                          (first | rw [c17b0] | (simp only [i64_w, i32_w]; rw [c17b0]) | skip)
                          have H' := Aside0.mk H
                          clear H
                          go_wp2
                          go_meet
                          case rel => exact ⟨_, (false), (by first | rfl | (simp; done) | (simp [*]; done)), H', ⟨by have := HJ2.out; have := HK2.out; first | omega | exact Nat.le_refl _⟩, ⟨by repeat (first | (with_reducible first | exact HB.out | apply below_alloc | apply pw_below_drewN | apply below_drew1) | exact HB.out)⟩⟩
                      case rest =>
                        clear HC16
                        try clear c1
                        try clear p1
                        try clear q1
                        try clear hx1
                        try clear p2
                        try clear c4
                        try clear c4b0
                        try clear c5
                        try clear p6
                        try clear c7
                        try clear c7b0
                        try clear c9
                        try clear c9b0
                        try clear c10
                        try clear c10b0
                        try clear p11
                        try clear q11
                        try clear hx11
                        try clear c13
                        try clear c13b0
                        try clear c13b1
                        try clear c15
                        try clear c15b0
                        try clear c17
                        try clear c17b0
                        try clear c17b1
                        try clear p11
                        try clear p2
                        try clear p6
                        try clear q11
                        obtain ⟨kq, x47_15, rfl, HA, HJ15, HB⟩ := hcut
                        cases kq with
                        | zero => exact absurd HA.out (by simp [pack_TakeNum.j2])
                        | succ kj15 =>
                          have H := HA.out
                          clear HA
                          simp only [pack_TakeNum.j2] at H
                          by_cases c18 : x47_15 = true
                          · subst c18
                            have H1 : (some (0, 0, 32)) = some (r1, r2, r3) := by rw [if_pos rfl] at H; exact H
                            clear H
                            have H := H1
                            clear H1
                            simp only [Option.some.injEq, Prod.mk.injEq] at H
                            obtain ⟨rfl, rfl, rfl⟩ := H
                            go_wp2
                            go_ret3
                            exact ⟨by first | rfl | (simp [errW_none, errW_some] <;> rfl) | (simp only [← hji6, ← hji8, ← hji12, ← hji14]; first | rfl | (simp [errW_none, errW_some] <;> rfl)) | (simp [*, errW_none, errW_some] <;> rfl), by repeat (first | (with_reducible first | exact HB.out | apply below_alloc | apply pw_below_drewN | apply below_drew1) | exact HB.out)⟩
                          · replace c18 := Bool.eq_false_iff.mpr c18
                            subst c18
                            have H1 : (if (Go.bits .or .i64 x7_2 (ji14)) > 1125899906842624 then (some (0, 0, 32)) else (some ((Go.bits .or .i64 x7_2 (ji14)), wrap64 ((wrap64 (a1 + x23_2)) + 1), 0))) = some (r1, r2, r3) := by rw [if_neg (show ¬ (false = true) by decide)] at H; exact H
                            clear H
                            have H := H1
                            clear H1
                            by_cases c19 : (Go.bits .or .i64 x7_2 (ji14)) > 1125899906842624
                            · rw [if_pos c19] at H
                              have c19b0 : decide (1125899906842624 < (Go.bits .or .i64 x7_2 (ji14))) = true := decide_eq_true c19
                              clear c19
                              simp only [Option.some.injEq, Prod.mk.injEq] at H
                              obtain ⟨rfl, rfl, rfl⟩ := H
                              go_wp2
                              go_ret3
                              exact ⟨by first | rfl | (simp [errW_none, errW_some] <;> rfl) | (simp only [← hji6, ← hji8, ← hji12, ← hji14]; first | rfl | (simp [errW_none, errW_some] <;> rfl)) | (simp [*, errW_none, errW_some] <;> rfl), by repeat (first | (with_reducible first | exact HB.out | apply below_alloc | apply pw_below_drewN | apply below_drew1) | exact HB.out)⟩
                            · rw [if_neg c19] at H
                              have c19b0 : decide (1125899906842624 < (Go.bits .or .i64 x7_2 (ji14))) = false := decide_eq_false c19
                              clear c19
                              simp only [Option.some.injEq, Prod.mk.injEq] at H
                              obtain ⟨rfl, rfl, rfl⟩ := H
                              go_wp2
                              go_ret3
                              exact ⟨by first | rfl | (simp [errW_none, errW_some] <;> rfl) | (simp only [← hji6, ← hji8, ← hji12, ← hji14]; first | rfl | (simp [errW_none, errW_some] <;> rfl)) | (simp [*, errW_none, errW_some] <;> rfl), by repeat (first | (with_reducible first | exact HB.out | apply below_alloc | apply pw_below_drewN | apply below_drew1) | exact HB.out)⟩
                  · rw [if_neg c13] at H
                    exact absurd H (by simp)
                · rw [if_neg c10] at H
                  exact absurd H (by simp)
              · rw [if_neg c9] at H
                exact absurd H (by simp)
            · rw [if_neg c7] at H
              have c7b0 : decide (x23_2 < ji6) = false := decide_eq_false c7
              clear c7
              by_cases c20 : (wrap64 ((a0.size : Int) - a1)) ≥ 8
              · rw [if_pos c20] at H
                have c20b0 : decide (8 ≤ (wrap64 ((a0.size : Int) - a1))) = true := decide_eq_true c20
                clear c20
                simp only [Option.some.injEq, Prod.mk.injEq] at H
                obtain ⟨rfl, rfl, rfl⟩ := H
                go_wp2
                go_ret3
                exact ⟨by first | rfl | (simp [errW_none, errW_some] <;> rfl) | (simp only [← hji6]; first | rfl | (simp [errW_none, errW_some] <;> rfl)) | (simp [*, errW_none, errW_some] <;> rfl), by repeat (first | (with_reducible first | exact HB.out | apply below_alloc | apply pw_below_drewN | apply below_drew1) | exact HB.out)⟩
              · rw [if_neg c20] at H
                have c20b0 : decide (8 ≤ (wrap64 ((a0.size : Int) - a1))) = false := decide_eq_false c20
                clear c20
                simp only [Option.some.injEq, Prod.mk.injEq] at H
                obtain ⟨rfl, rfl, rfl⟩ := H
                go_wp2
                go_ret3
                exact ⟨by first | rfl | (simp [errW_none, errW_some] <;> rfl) | (simp only [← hji6]; first | rfl | (simp [errW_none, errW_some] <;> rfl)) | (simp [*, errW_none, errW_some] <;> rfl), by repeat (first | (with_reducible first | exact HB.out | apply below_alloc | apply pw_below_drewN | apply below_drew1) | exact HB.out)⟩

/-! ### pack_Text: function 95 -/
def pack_Text.f (k : Nat) (a0 : ByteArray) : Option (ByteArray × Int) := if (a0.size : Int) > 2000 then (some ((⟨#[]⟩ : ByteArray), 2)) else ((pack_Num.f k (a0.size : Int)).bind fun bt107 => ((pack_join.f (([bt107.1, a0] : List ByteArray))).bind fun t112 => (some (t112, bt107.2))))
theorem pack_Text.mono : ∀ a0 k, LeO (pack_Text.f k a0) (pack_Text.f (k + 1) a0) := by
  intro a0 k
  unfold pack_Text.f
  repeat' first
      | (with_reducible exact pack_Num.mono _ _)
      | (with_reducible exact LeO.refl _)
      | (with_reducible exact LeO.none _)
      | (with_reducible refine LeO.ite ?_ ?_)
      | (with_reducible refine LeO.bind ?_ (fun _ => ?_))
      | exact pack_Num.mono _ _
      | exact LeO.none _
      | refine LeO.ite ?_ ?_
      | refine LeO.bind ?_ (fun _ => ?_)
set_option maxHeartbeats 8000000 in
set_option maxRecDepth 100000 in
theorem pack_Text.calls (k : Nat) (a0 : ByteArray) (r1 : ByteArray) (r2 : Int) (w : World) (h : pack_Text.f k a0 = some (r1, r2)) :
    Calls Try.prog 95 #[.string a0] w fun e w' => e = .returned (.tuple #[.string r1, .int .i64 r2]) ∧ Below w.heap.size w w' := by
  have HB := Aside0.mk (Below.refl w.heap.size w)
  have H : (if (a0.size : Int) > 2000 then (some ((⟨#[]⟩ : ByteArray), 2)) else ((pack_Num.f k (a0.size : Int)).bind fun bt107 => ((pack_join.f (([bt107.1, a0] : List ByteArray))).bind fun t112 => (some (t112, bt107.2))))) = some (r1, r2) := h
  clear h
  by_cases c2 : (a0.size : Int) > 2000
  · rw [if_pos c2] at H
    have c2b0 : decide (2000 < (a0.size : Int)) = true := decide_eq_true c2
    have c2b1 : decide (2000 < a0.size) = true := decide_eq_true (by omega)
    clear c2
    simp only [Option.some.injEq, Prod.mk.injEq] at H
    obtain ⟨rfl, rfl⟩ := H
    go_enter Try.func95, Try.ntmps95
    go_wp2
    go_ret2
    exact ⟨by first | rfl | (simp [errW_none, errW_some] <;> rfl) | (simp [*, errW_none, errW_some] <;> rfl), by repeat (first | (with_reducible first | exact HB.out | apply below_alloc | apply pw_below_drewN | apply below_drew1) | exact HB.out)⟩
  · rw [if_neg c2] at H
    have c2b0 : decide (2000 < (a0.size : Int)) = false := decide_eq_false c2
    have c2b1 : decide (2000 < a0.size) = false := decide_eq_false (by omega)
    clear c2
    replace H := Option.bind_eq_some_iff.mp H
    obtain ⟨⟨t107, t108⟩, A30, H⟩ := H
    replace H : ((pack_join.f (([t107, a0] : List ByteArray))).bind fun t112 => (some (t112, t108))) = some (r1, r2) := H
    have A3 := Aside0.mk A30
    clear A30
    obtain ⟨y109, hy109⟩ : ∃ y_ : List ByteArray, y_ = (([t107, a0] : List ByteArray)) := ⟨_, rfl⟩
    replace H : ((pack_join.f y109).bind fun t112 => (some (t112, t108))) = some (r1, r2) := by first | (rw [hy109]; with_reducible exact H) | (have H2_ := (Option.bind_some _ _).symm.trans H; rw [hy109]; with_reducible exact H2_) | (have H2_ := (Option.bind_some _ _).symm.trans H; with_reducible exact H2_) | with_reducible exact H | (rw [hy109]; exact H) | exact H
    have Ny109 := Aside0.mk hy109
    clear hy109
    replace H := Option.bind_eq_some_iff.mp H
    obtain ⟨t112, A40, H⟩ := H
    replace H : (some (t112, t108)) = some (r1, r2) := H
    have A4 := Aside0.mk A40
    clear A40
    simp only [Option.some.injEq, Prod.mk.injEq] at H
    obtain ⟨rfl, rfl⟩ := H
    go_enter Try.func95, Try.ntmps95
    go_wp2_with (first | ((with_reducible refine gate_callee (f := 89) rfl ?_); refine goesL_ (some 12) rfl rfl Try.func89 (by kernel_rfl) rfl #[.int .i64 (a0.size : Int)] rfl (by (try simp only [List.map_toArray, List.map_cons, List.map_nil]); first | done | rfl | (simp only [List.length_drop, List.length_take]; rfl)) ?_; (with_reducible refine (pack_Num.calls k (a0.size : Int) t107 t108 _ A3.out).mono ?_); rintro e w5 ⟨rfl, hb⟩; refine ⟨_, rfl, ?_⟩; have n0_ := Aside0.mk (below_step (by repeat (first | (with_reducible first | exact HB.out | apply below_alloc | apply pw_below_drewN | apply below_drew1) | exact HB.out)) hb); clear HB; have HB := n0_; clear n0_; (try clear hb); (try clear hb2); (try clear hk); (try clear hi)) | ((with_reducible refine gate_dst (N := 17) rfl ?_); refine Kd.R_lit Kd.string _ 9 ?hg (N := 17) ?hd (xs := ([t107, a0] : List ByteArray)) (inner := [.string t107, .string a0]) (ok := fun _ => True) (okp := fun _ => True) ?hr ?hp (fun _ hk => hk) trivial (Below.refl _ _) (Nat.le_refl _) (by simp) ?_; (case hd => rfl); (case hg => rfl); (case hr => first | (go_simp; done) | (go_simp; rfl)); (case hp => exact (Reps.one (show Kd.M Kd.string _ _ _ t107 [.string t107] from rfl) (Reps.one (show Kd.M Kd.string _ _ _ a0 [.string a0] from rfl) (Reps.none _ _)))); intro v110 w6 ho7 hb hg_ hnew_; clear hg_ hnew_; (first | rw [← Ny109.out] at ho7 | (simp only [Int.reduceToNat] at ho7; rw [← Ny109.out] at ho7)); have n0_ := Aside0.mk (Kd.R_lower ho7 (below_size (by repeat (first | (with_reducible first | exact HB.out | apply below_alloc | apply pw_below_drewN | apply below_drew1) | exact HB.out)))); have n1_ := Aside0.mk (below_step (by repeat (first | (with_reducible first | exact HB.out | apply below_alloc | apply pw_below_drewN | apply below_drew1) | exact HB.out)) hb); clear HB; have HO111 := n0_; have HB := n1_; clear n0_ n1_; clear hb ho7; obtain ⟨Ao8, co8, eo8⟩ := Kd.R_slice HO111.out; subst eo8) | ((with_reducible refine gate_callee (f := 96) rfl ?_); refine goesL_ (some 18) rfl rfl Try.func96 (by kernel_rfl) rfl #[.slice Ao8 y109.length co8] rfl (by (try simp only [List.map_toArray, List.map_cons, List.map_nil]); first | done | rfl | (simp only [List.length_drop, List.length_take]; rfl)) ?_; (with_reducible refine (pack_join.calls _ _ y109 t112 _ ?side1 ?side2 A4.out).mono ?_); (case side1 => repeat (first | exact (Kd.R_reads' HO111.out).2.2 | (with_reducible refine Kd.C_alloc ?_ _) | (with_reducible refine Kd.C_drewN ?_ _) | (with_reducible refine Kd.C_drew ?_))); (case side2 => exact (Kd.R_reads' HO111.out).2.1); rintro e w9 ⟨rfl, hb⟩; refine ⟨_, rfl, ?_⟩; have n0_ := Aside0.mk (Kd.R_below (by (with_reducible repeat (first | apply Kd.R_alloc | apply Kd.R_drewN | apply Kd.R_drew)); exact HO111.out) hb); have n1_ := Aside0.mk (below_step (by repeat (first | (with_reducible first | exact HB.out | apply below_alloc | apply pw_below_drewN | apply below_drew1) | exact HB.out)) hb); clear HO111; clear HB; have HO111 := n0_; have HB := n1_; clear n0_ n1_; (try clear hb); (try clear hb2); (try clear hk); (try clear hi)))
    go_ret2
    exact ⟨by first | rfl | (simp [errW_none, errW_some] <;> rfl) | (simp [*, errW_none, errW_some] <;> rfl), by repeat (first | (with_reducible first | exact HB.out | apply below_alloc | apply pw_below_drewN | apply below_drew1) | exact HB.out)⟩

/-! ### pack_TakeText: function 97 -/
def pack_TakeText.f (k : Nat) (a0 : ByteArray) (a1 : Int) : Option (ByteArray × Int × Int) := (pack_TakeNum.f k a0 a1).bind fun bt113 => (if bt113.2.2 = 0 then (if bt113.1 > 2000 then (some ((⟨#[]⟩ : ByteArray), 0, 32)) else (if bt113.1 > (wrap64 ((a0.size : Int) - bt113.2.1)) then (some ((⟨#[]⟩ : ByteArray), 0, 31)) else (if 0 ≤ bt113.2.1 then (if bt113.2.1 ≤ (wrap64 (bt113.2.1 + bt113.1)) then (if (wrap64 (bt113.2.1 + bt113.1)) ≤ (a0.size : Int) then (some (a0.extract (bt113.2.1 : Int).toNat ((wrap64 (bt113.2.1 + bt113.1)) : Int).toNat, wrap64 (bt113.2.1 + bt113.1), 0)) else (none)) else (none)) else (none)))) else (some ((⟨#[]⟩ : ByteArray), 0, bt113.2.2)))
theorem pack_TakeText.mono : ∀ a0 a1 k, LeO (pack_TakeText.f k a0 a1) (pack_TakeText.f (k + 1) a0 a1) := by
  intro a0 a1 k
  unfold pack_TakeText.f
  repeat' first
      | (with_reducible exact pack_TakeNum.mono _ _ _)
      | (with_reducible exact LeO.refl _)
      | (with_reducible exact LeO.none _)
      | (with_reducible refine LeO.ite ?_ ?_)
      | (with_reducible refine LeO.bind ?_ (fun _ => ?_))
      | exact pack_TakeNum.mono _ _ _
      | exact LeO.none _
      | refine LeO.ite ?_ ?_
      | refine LeO.bind ?_ (fun _ => ?_)
set_option maxHeartbeats 8000000 in
set_option maxRecDepth 100000 in
theorem pack_TakeText.calls (k : Nat) (a0 : ByteArray) (a1 : Int) (r1 : ByteArray) (r2 : Int) (r3 : Int) (w : World) (h : pack_TakeText.f k a0 a1 = some (r1, r2, r3)) :
    Calls Try.prog 97 #[.string a0, .int .i64 a1] w fun e w' => e = .returned (.tuple #[.string r1, .int .i64 r2, .int .i64 r3]) ∧ Below w.heap.size w w' := by
  have HB := Aside0.mk (Below.refl w.heap.size w)
  have H : ((pack_TakeNum.f k a0 a1).bind fun bt113 => (if bt113.2.2 = 0 then (if bt113.1 > 2000 then (some ((⟨#[]⟩ : ByteArray), 0, 32)) else (if bt113.1 > (wrap64 ((a0.size : Int) - bt113.2.1)) then (some ((⟨#[]⟩ : ByteArray), 0, 31)) else (if 0 ≤ bt113.2.1 then (if bt113.2.1 ≤ (wrap64 (bt113.2.1 + bt113.1)) then (if (wrap64 (bt113.2.1 + bt113.1)) ≤ (a0.size : Int) then (some (a0.extract (bt113.2.1 : Int).toNat ((wrap64 (bt113.2.1 + bt113.1)) : Int).toNat, wrap64 (bt113.2.1 + bt113.1), 0)) else (none)) else (none)) else (none)))) else (some ((⟨#[]⟩ : ByteArray), 0, bt113.2.2)))) = some (r1, r2, r3) := h
  clear h
  replace H := Option.bind_eq_some_iff.mp H
  obtain ⟨⟨t113, t114, t115⟩, A30, H⟩ := H
  replace H : (if t115 = 0 then (if t113 > 2000 then (some ((⟨#[]⟩ : ByteArray), 0, 32)) else (if t113 > (wrap64 ((a0.size : Int) - t114)) then (some ((⟨#[]⟩ : ByteArray), 0, 31)) else (if 0 ≤ t114 then (if t114 ≤ (wrap64 (t114 + t113)) then (if (wrap64 (t114 + t113)) ≤ (a0.size : Int) then (some (a0.extract (t114 : Int).toNat ((wrap64 (t114 + t113)) : Int).toNat, wrap64 (t114 + t113), 0)) else (none)) else (none)) else (none)))) else (some ((⟨#[]⟩ : ByteArray), 0, t115))) = some (r1, r2, r3) := H
  have A3 := Aside0.mk A30
  clear A30
  by_cases c4 : t115 = 0
  · rw [if_pos c4] at H
    have c4b0 : (t115 == 0) = true := beq_iff_eq.mpr c4
    have c4b1 : (t115 != 0) = false := bne_eq_false_iff_eq.mpr c4
    clear c4
    by_cases c5 : t113 > 2000
    · rw [if_pos c5] at H
      have c5b0 : decide (2000 < t113) = true := decide_eq_true c5
      clear c5
      simp only [Option.some.injEq, Prod.mk.injEq] at H
      obtain ⟨rfl, rfl, rfl⟩ := H
      go_enter Try.func97, Try.ntmps97
      go_wp2_with (first | ((with_reducible refine gate_callee (f := 91) rfl ?_); refine goesL_ (some 13) rfl rfl Try.func91 (by kernel_rfl) rfl #[.string a0, .int .i64 a1] rfl (by (try simp only [List.map_toArray, List.map_cons, List.map_nil]); first | done | rfl | (simp only [List.length_drop, List.length_take]; rfl)) ?_; (with_reducible refine (pack_TakeNum.calls k a0 a1 t113 t114 t115 _ A3.out).mono ?_); rintro e w6 ⟨rfl, hb⟩; refine ⟨_, rfl, ?_⟩; have n0_ := Aside0.mk (below_step (by repeat (first | (with_reducible first | exact HB.out | apply below_alloc | apply pw_below_drewN | apply below_drew1) | exact HB.out)) hb); clear HB; have HB := n0_; clear n0_; (try clear hb); (try clear hb2); (try clear hk); (try clear hi)))
      go_ret3
      exact ⟨by first | rfl | (simp [errW_none, errW_some] <;> rfl) | (simp [*, errW_none, errW_some] <;> rfl), by repeat (first | (with_reducible first | exact HB.out | apply below_alloc | apply pw_below_drewN | apply below_drew1) | exact HB.out)⟩
    · rw [if_neg c5] at H
      have c5b0 : decide (2000 < t113) = false := decide_eq_false c5
      clear c5
      by_cases c7 : t113 > (wrap64 ((a0.size : Int) - t114))
      · rw [if_pos c7] at H
        have c7b0 : decide ((wrap64 ((a0.size : Int) - t114)) < t113) = true := decide_eq_true c7
        clear c7
        simp only [Option.some.injEq, Prod.mk.injEq] at H
        obtain ⟨rfl, rfl, rfl⟩ := H
        go_enter Try.func97, Try.ntmps97
        go_wp2_with (first | ((with_reducible refine gate_callee (f := 91) rfl ?_); refine goesL_ (some 13) rfl rfl Try.func91 (by kernel_rfl) rfl #[.string a0, .int .i64 a1] rfl (by (try simp only [List.map_toArray, List.map_cons, List.map_nil]); first | done | rfl | (simp only [List.length_drop, List.length_take]; rfl)) ?_; (with_reducible refine (pack_TakeNum.calls k a0 a1 t113 t114 t115 _ A3.out).mono ?_); rintro e w8 ⟨rfl, hb⟩; refine ⟨_, rfl, ?_⟩; have n0_ := Aside0.mk (below_step (by repeat (first | (with_reducible first | exact HB.out | apply below_alloc | apply pw_below_drewN | apply below_drew1) | exact HB.out)) hb); clear HB; have HB := n0_; clear n0_; (try clear hb); (try clear hb2); (try clear hk); (try clear hi)))
        go_ret3
        exact ⟨by first | rfl | (simp [errW_none, errW_some] <;> rfl) | (simp [*, errW_none, errW_some] <;> rfl), by repeat (first | (with_reducible first | exact HB.out | apply below_alloc | apply pw_below_drewN | apply below_drew1) | exact HB.out)⟩
      · rw [if_neg c7] at H
        have c7b0 : decide ((wrap64 ((a0.size : Int) - t114)) < t113) = false := decide_eq_false c7
        clear c7
        by_cases c9 : 0 ≤ t114
        · rw [if_pos c9] at H
          have c9b0 := eq_true c9
          have c9b1 : decide (0 ≤ t114) = true := decide_eq_true c9
          clear c9
          by_cases c10 : t114 ≤ (wrap64 (t114 + t113))
          · rw [if_pos c10] at H
            have c10b0 := eq_true c10
            have c10b1 : decide (t114 ≤ (wrap64 (t114 + t113))) = true := decide_eq_true c10
            by_cases c11 : (wrap64 (t114 + t113)) ≤ (a0.size : Int)
            · rw [if_pos c11] at H
              have c11b0 := eq_true c11
              have c11b1 : decide ((wrap64 (t114 + t113)) ≤ (a0.size : Int)) = true := decide_eq_true c11
              simp only [Option.some.injEq, Prod.mk.injEq] at H
              obtain ⟨rfl, rfl, rfl⟩ := H
              go_enter Try.func97, Try.ntmps97
              go_wp2_with (first | ((with_reducible refine gate_callee (f := 91) rfl ?_); refine goesL_ (some 13) rfl rfl Try.func91 (by kernel_rfl) rfl #[.string a0, .int .i64 a1] rfl (by (try simp only [List.map_toArray, List.map_cons, List.map_nil]); first | done | rfl | (simp only [List.length_drop, List.length_take]; rfl)) ?_; (with_reducible refine (pack_TakeNum.calls k a0 a1 t113 t114 t115 _ A3.out).mono ?_); rintro e w12 ⟨rfl, hb⟩; refine ⟨_, rfl, ?_⟩; have n0_ := Aside0.mk (below_step (by repeat (first | (with_reducible first | exact HB.out | apply below_alloc | apply pw_below_drewN | apply below_drew1) | exact HB.out)) hb); clear HB; have HB := n0_; clear n0_; (try clear hb); (try clear hb2); (try clear hk); (try clear hi)))
              go_ret3
              exact ⟨by first | rfl | (simp [errW_none, errW_some] <;> rfl) | (simp [*, errW_none, errW_some] <;> rfl), by repeat (first | (with_reducible first | exact HB.out | apply below_alloc | apply pw_below_drewN | apply below_drew1) | exact HB.out)⟩
            · rw [if_neg c11] at H
              exact absurd H (by simp)
          · rw [if_neg c10] at H
            exact absurd H (by simp)
        · rw [if_neg c9] at H
          exact absurd H (by simp)
  · rw [if_neg c4] at H
    have c4b0 : (t115 == 0) = false := beq_eq_false_iff_ne.mpr c4
    have c4b1 : (t115 != 0) = true := bne_iff_ne.mpr c4
    simp only [Option.some.injEq, Prod.mk.injEq] at H
    obtain ⟨rfl, rfl, rfl⟩ := H
    go_enter Try.func97, Try.ntmps97
    go_wp2_with (first | ((with_reducible refine gate_callee (f := 91) rfl ?_); refine goesL_ (some 13) rfl rfl Try.func91 (by kernel_rfl) rfl #[.string a0, .int .i64 a1] rfl (by (try simp only [List.map_toArray, List.map_cons, List.map_nil]); first | done | rfl | (simp only [List.length_drop, List.length_take]; rfl)) ?_; (with_reducible refine (pack_TakeNum.calls k a0 a1 t113 t114 t115 _ A3.out).mono ?_); rintro e w13 ⟨rfl, hb⟩; refine ⟨_, rfl, ?_⟩; have n0_ := Aside0.mk (below_step (by repeat (first | (with_reducible first | exact HB.out | apply below_alloc | apply pw_below_drewN | apply below_drew1) | exact HB.out)) hb); clear HB; have HB := n0_; clear n0_; (try clear hb); (try clear hb2); (try clear hk); (try clear hi)))
    go_ret3
    exact ⟨by first | rfl | (simp [errW_none, errW_some] <;> rfl) | (simp [*, errW_none, errW_some] <;> rfl), by repeat (first | (with_reducible first | exact HB.out | apply below_alloc | apply pw_below_drewN | apply below_drew1) | exact HB.out)⟩

/-! ### pack_List: function 92 -/
def pack_List.l0 : Nat → List ByteArray → List ByteArray → Int → Int → Option (ByteArray × Int)
  | 0, _, _, _, _ => none
  | k + 1, x6, x22, x23, x24 => if x24 < x23 then (if 0 ≤ x24 then (if x24 < (x22.length : Int) then ((pack_Text.f k (rdOf ByteArray.empty x22 x24)).bind fun bt122 => (if bt122.2 = 0 then (if x6.length < 8796093022208 then (pack_List.l0 k (x6 ++ [bt122.1]) x22 x23 (wrap64 (x24 + 1))) else (none)) else (some ((⟨#[]⟩ : ByteArray), bt122.2)))) else (none)) else (none)) else ((pack_join.f x6).bind fun t127 => (some (t127, 0)))
def pack_List.f (k : Nat) (l0 : List ByteArray) : Option (ByteArray × Int) := if (l0.length : Int) > 4000 then (some ((⟨#[]⟩ : ByteArray), 2)) else ((pack_Num.f k (l0.length : Int)).bind fun bt116 => (pack_List.l0 k (([bt116.1] : List ByteArray)) l0 (l0.length : Int) 0))
theorem pack_List.mono_l : ∀ k, (∀ y0 y1 y2 y3, LeO (pack_List.l0 k y0 y1 y2 y3) (pack_List.l0 (k + 1) y0 y1 y2 y3))
  | 0 => fun _ _ _ _ r h => by simp [pack_List.l0] at h
  | k + 1 => by
    have ih0 := pack_List.mono_l k
    · intro y0 y1 y2 y3
      unfold pack_List.l0
      repeat' first
      | (with_reducible exact ih0 _ _ _ _)
      | (with_reducible exact pack_Num.mono _ _)
      | (with_reducible exact pack_Text.mono _ _)
      | (with_reducible exact LeO.refl _)
      | (with_reducible exact LeO.none _)
      | (with_reducible refine LeO.ite ?_ ?_)
      | (with_reducible refine LeO.bind ?_ (fun _ => ?_))
      | exact ih0 _ _ _ _
      | exact pack_Num.mono _ _
      | exact pack_Text.mono _ _
      | exact LeO.none _
      | refine LeO.ite ?_ ?_
      | refine LeO.bind ?_ (fun _ => ?_)
theorem pack_List.mono : ∀ a0 k, LeO (pack_List.f k a0) (pack_List.f (k + 1) a0) := by
  intro a0 k
  have ih0 := pack_List.mono_l k
  unfold pack_List.f
  repeat' first
      | (with_reducible exact ih0 _ _ _ _)
      | (with_reducible exact pack_Num.mono _ _)
      | (with_reducible exact pack_Text.mono _ _)
      | (with_reducible exact LeO.refl _)
      | (with_reducible exact LeO.none _)
      | (with_reducible refine LeO.ite ?_ ?_)
      | (with_reducible refine LeO.bind ?_ (fun _ => ?_))
      | exact ih0 _ _ _ _
      | exact pack_Num.mono _ _
      | exact pack_Text.mono _ _
      | exact LeO.none _
      | refine LeO.ite ?_ ?_
      | refine LeO.bind ?_ (fun _ => ?_)
set_option maxHeartbeats 8000000 in
set_option maxRecDepth 100000 in
theorem pack_List.calls (k : Nat) (A0 : Option Addr) (c0 : Nat) (l0 : List ByteArray) (r1 : ByteArray) (r2 : Int) (w : World) (hr0 : Kd.C Kd.string w A0 l0.length l0) (hc0 : l0.length ≤ c0) (h : pack_List.f k l0 = some (r1, r2)) :
    Calls Try.prog 92 #[.slice A0 l0.length c0] w fun e w' => e = .returned (.tuple #[.string r1, .int .i64 r2]) ∧ Below w.heap.size w w' := by
  have HR0 := Aside0.mk hr0
  have HC0 := Aside0.mk hc0
  clear hr0 hc0
  have HB := Aside0.mk (Below.refl w.heap.size w)
  have H : (if (l0.length : Int) > 4000 then (some ((⟨#[]⟩ : ByteArray), 2)) else ((pack_Num.f k (l0.length : Int)).bind fun bt116 => (pack_List.l0 k (([bt116.1] : List ByteArray)) l0 (l0.length : Int) 0))) = some (r1, r2) := h
  clear h
  by_cases c2 : (l0.length : Int) > 4000
  · rw [if_pos c2] at H
    have c2b0 : decide (4000 < (l0.length : Int)) = true := decide_eq_true c2
    have c2b1 : decide (4000 < l0.length) = true := decide_eq_true (by omega)
    clear c2
    simp only [Option.some.injEq, Prod.mk.injEq] at H
    obtain ⟨rfl, rfl⟩ := H
    go_enter Try.func92, Try.ntmps92
    go_wp2
    go_ret2
    exact ⟨by first | rfl | (simp [errW_none, errW_some] <;> rfl) | (simp [*, errW_none, errW_some] <;> rfl), by repeat (first | (with_reducible first | exact HB.out | apply below_alloc | apply pw_below_drewN | apply below_drew1) | exact HB.out)⟩
  · rw [if_neg c2] at H
    have c2b0 : decide (4000 < (l0.length : Int)) = false := decide_eq_false c2
    have c2b1 : decide (4000 < l0.length) = false := decide_eq_false (by omega)
    clear c2
    replace H := Option.bind_eq_some_iff.mp H
    obtain ⟨⟨t116, t117⟩, A30, H⟩ := H
    replace H : (pack_List.l0 k (([t116] : List ByteArray)) l0 (l0.length : Int) 0) = some (r1, r2) := H
    have A3 := Aside0.mk A30
    clear A30
    obtain ⟨y118, hy118⟩ : ∃ y_ : List ByteArray, y_ = (([t116] : List ByteArray)) := ⟨_, rfl⟩
    replace H : (pack_List.l0 k y118 l0 (l0.length : Int) 0) = some (r1, r2) := by first | (rw [hy118]; with_reducible exact H) | (have H2_ := (Option.bind_some _ _).symm.trans H; rw [hy118]; with_reducible exact H2_) | (have H2_ := (Option.bind_some _ _).symm.trans H; with_reducible exact H2_) | with_reducible exact H | (rw [hy118]; exact H) | exact H
    have Ny118 := Aside0.mk hy118
    clear hy118
    have H' := Aside0.mk H
    clear H
    go_enter Try.func92, Try.ntmps92
    go_wp2_with (first | ((with_reducible refine gate_callee (f := 89) rfl ?_); refine goesL_ (some 17) rfl rfl Try.func89 (by kernel_rfl) rfl #[.int .i64 (l0.length : Int)] rfl (by (try simp only [List.map_toArray, List.map_cons, List.map_nil]); first | done | rfl | (simp only [List.length_drop, List.length_take]; rfl)) ?_; (with_reducible refine (pack_Num.calls k (l0.length : Int) t116 t117 _ A3.out).mono ?_); rintro e w4 ⟨rfl, hb⟩; refine ⟨_, rfl, ?_⟩; have n0_ := Aside0.mk (below_step (by repeat (first | (with_reducible first | exact HB.out | apply below_alloc | apply pw_below_drewN | apply below_drew1) | exact HB.out)) hb); clear HB; have HB := n0_; clear n0_; (try clear hb); (try clear hb2); (try clear hk); (try clear hi)) | ((with_reducible refine gate_dst (N := 21) rfl ?_); refine Kd.R_lit Kd.string _ 9 ?hg (N := 21) ?hd (xs := ([t116] : List ByteArray)) (inner := [.string t116]) (ok := fun _ => True) (okp := fun _ => True) ?hr ?hp (fun _ hk => hk) trivial (Below.refl _ _) (Nat.le_refl _) (by simp) ?_; (case hd => rfl); (case hg => rfl); (case hr => first | (go_simp; done) | (go_simp; rfl)); (case hp => exact (Reps.one (show Kd.M Kd.string _ _ _ t116 [.string t116] from rfl) (Reps.none _ _))); intro v119 w5 ho6 hb hg_ hnew_; clear hg_ hnew_; (first | rw [← Ny118.out] at ho6 | (simp only [Int.reduceToNat] at ho6; rw [← Ny118.out] at ho6)); have n0_ := Aside0.mk (Kd.R_lower ho6 (below_size (by repeat (first | (with_reducible first | exact HB.out | apply below_alloc | apply pw_below_drewN | apply below_drew1) | exact HB.out)))); have n1_ := Aside0.mk (below_step (by repeat (first | (with_reducible first | exact HB.out | apply below_alloc | apply pw_below_drewN | apply below_drew1) | exact HB.out)) hb); clear HB; have HO120 := n0_; have HB := n1_; clear n0_ n1_; clear hb ho6))
    go_loopg [6, 24] k (fun kq v6 v24 w' => ∃ (x6_1 : List ByteArray) (x24_1 : Int), v24 = .int .i64 x24_1 ∧ Aside0 (pack_List.l0 kq x6_1 l0 (l0.length : Int) x24_1 = some (r1, r2)) ∧ Aside0 (kq ≤ k) ∧ Aside0 (Kd.R Kd.string 9 w' w.heap.size (fun _ => True) v6 x6_1) ∧ Aside0 (Below w.heap.size w w'))
    case atStart => exact ⟨(y118), (0), (by first | rfl | (simp; done) | (simp [*]; done)), H', ⟨Nat.le_refl _⟩, ⟨by (with_reducible repeat (first | apply Kd.R_alloc | apply Kd.R_drewN | apply Kd.R_drew)); exact HO120.out⟩, ⟨by repeat (first | (with_reducible first | exact HB.out | apply below_alloc | apply pw_below_drewN | apply below_drew1) | exact HB.out)⟩⟩
    case round =>
      clear H'
      try clear c2
      try clear c2b0
      try clear c2b1
      try clear p2
      obtain ⟨x6_1, x24_1, rfl, HA, HK1, HO_6, HB⟩ := hrel
      cases gk with
      | zero => exact absurd HA.out (by simp [pack_List.l0])
      | succ k1 =>
        have H := HA.out
        clear HA
        simp only [pack_List.l0] at H
        by_cases c7 : x24_1 < (l0.length : Int)
        · rw [if_pos c7] at H
          have c7b0 : decide (x24_1 < (l0.length : Int)) = true := decide_eq_true c7
          clear c7
          by_cases c8 : 0 ≤ x24_1
          · rw [if_pos c8] at H
            have c8b0 : decide (0 ≤ x24_1) = true := decide_eq_true c8
            clear c8
            by_cases c9 : x24_1 < (l0.length : Int)
            · rw [if_pos c9] at H
              have c9b0 : decide (x24_1 < (l0.length : Int)) = true := decide_eq_true c9
              clear c9
              replace H := Option.bind_eq_some_iff.mp H
              obtain ⟨⟨t122, t123⟩, A100, H⟩ := H
              replace H : (if t123 = 0 then (if x6_1.length < 8796093022208 then (pack_List.l0 k1 (x6_1 ++ [t122]) l0 (l0.length : Int) (wrap64 (x24_1 + 1))) else (none)) else (some ((⟨#[]⟩ : ByteArray), t123))) = some (r1, r2) := H
              have A10 := Aside0.mk A100
              clear A100
              by_cases c11 : t123 = 0
              · rw [if_pos c11] at H
                have c11b0 : (t123 == 0) = true := beq_iff_eq.mpr c11
                have c11b1 : (t123 != 0) = false := bne_eq_false_iff_eq.mpr c11
                clear c11
                by_cases c12 : x6_1.length < 8796093022208
                · rw [if_pos c12] at H
                  have LMc12 := Aside0.mk c12
                  clear c12
                  obtain ⟨y124, hy124⟩ : ∃ y_ : List ByteArray, y_ = (x6_1 ++ [t122]) := ⟨_, rfl⟩
                  replace H : (pack_List.l0 k1 y124 l0 (l0.length : Int) (wrap64 (x24_1 + 1))) = some (r1, r2) := by first | (rw [hy124]; with_reducible exact H) | (have H2_ := (Option.bind_some _ _).symm.trans H; rw [hy124]; with_reducible exact H2_) | (have H2_ := (Option.bind_some _ _).symm.trans H; with_reducible exact H2_) | with_reducible exact H | (rw [hy124]; exact H) | exact H
                  have Ny124 := Aside0.mk hy124
                  clear hy124
                  have H' := Aside0.mk H
                  clear H
                  have p121 : 0 ≤ (x24_1 : Int) := of_decide_eq_true (by first | (with_reducible assumption) | assumption)
                  have q121 : x24_1 < (l0.length : Int) := of_decide_eq_true (by first | (with_reducible assumption) | assumption)
                  obtain ⟨ad121, e121, hx121_0⟩ := Kd.at_string HR0.out x24_1 p121 q121
                  cases e121
                  replace hx121_0 := (HB.out.cell (World.block_lt_of_cell? w _ hx121_0)).trans hx121_0
                  replace p121 := eq_true p121
                  replace q121 := eq_true q121
                  go_wp2_with (first | ((with_reducible refine gate_callee (f := 95) rfl ?_); refine goesL_ (some 30) rfl rfl Try.func95 (by kernel_rfl) rfl #[.string (rdOf ByteArray.empty l0 x24_1)] rfl (by (try simp only [List.map_toArray, List.map_cons, List.map_nil]); first | done | rfl | (simp only [List.length_drop, List.length_take]; rfl)) ?_; (with_reducible refine (pack_Text.calls k1 (rdOf ByteArray.empty l0 x24_1) t122 t123 _ A10.out).mono ?_); rintro e w13 ⟨rfl, hb⟩; refine ⟨_, rfl, ?_⟩; have n0_ := Aside0.mk (Kd.R_below (by (with_reducible repeat (first | apply Kd.R_alloc | apply Kd.R_drewN | apply Kd.R_drew)); exact HO_6.out) hb); have n1_ := Aside0.mk (below_step (by repeat (first | (with_reducible first | exact HB.out | apply below_alloc | apply pw_below_drewN | apply below_drew1) | exact HB.out)) hb); clear HO_6; clear HB; have HO_6 := n0_; have HB := n1_; clear n0_ n1_; (try clear hb); (try clear hb2); (try clear hk); (try clear hi)) | ((with_reducible refine gate_builtin (b := .append) (xs := #[.tmp 36, .tmp 38]) rfl ?_); at_builtin; refine Kd.R_append Kd.string (w0 := w) w.heap.size rfl (.tmp 36) (.tmp 38) 23 9 (.string ⟨#[]⟩) 16 rfl Try.underlying23 info9 rfl (by decide) (by omega) u6 x6_1 t122 [.string t122] (fun _ => True) (fun _ => False) rfl rfl ?aP (fun _ hk => hk.elim) ?aF ?aO ?aB ?aS ?aL ?_; (case aP => exact rfl); (case aB => exact (by repeat (first | (with_reducible first | exact HB.out | apply below_alloc | apply pw_below_drewN | apply below_drew1) | exact HB.out))); (case aF => exact (fun _ _ => trivial)); (case aO => exact (by (with_reducible repeat (first | apply Kd.R_alloc | apply Kd.R_drewN | apply Kd.R_drew)); exact HO_6.out)); (case aS => exact (below_size (by repeat (first | (with_reducible first | exact HB.out | apply below_alloc | apply pw_below_drewN | apply below_drew1) | exact HB.out)))); (case aL => have := LMc12.out; omega); intro v125 w14 ho hb hg hat; rw [← Ny124.out] at ho; have n0_ := Aside0.mk (hb); have n1_ := Aside0.mk (ho); clear HB; clear HO_6; have HB := n0_; have HO126 := n1_; clear n0_ n1_; clear ho hb hg hat))
                  go_roundg k1
                  case measure => have := HK1.out; omega
                  case rel => exact ⟨(y124), (wrap64 (x24_1 + 1)), (by first | rfl | (simp; done) | (simp [*]; done)), H', ⟨by have := HK1.out; omega⟩, ⟨by (with_reducible repeat (first | apply Kd.R_alloc | apply Kd.R_drewN | apply Kd.R_drew)); exact HO126.out⟩, ⟨by repeat (first | (with_reducible first | exact HB.out | apply below_alloc | apply pw_below_drewN | apply below_drew1) | exact HB.out)⟩⟩
                · rw [if_neg c12] at H
                  exact absurd H (by simp)
              · rw [if_neg c11] at H
                have c11b0 : (t123 == 0) = false := beq_eq_false_iff_ne.mpr c11
                have c11b1 : (t123 != 0) = true := bne_iff_ne.mpr c11
                simp only [Option.some.injEq, Prod.mk.injEq] at H
                obtain ⟨rfl, rfl⟩ := H
                have p121 : 0 ≤ (x24_1 : Int) := of_decide_eq_true (by first | (with_reducible assumption) | assumption)
                have q121 : x24_1 < (l0.length : Int) := of_decide_eq_true (by first | (with_reducible assumption) | assumption)
                obtain ⟨ad121, e121, hx121_0⟩ := Kd.at_string HR0.out x24_1 p121 q121
                cases e121
                replace hx121_0 := (HB.out.cell (World.block_lt_of_cell? w _ hx121_0)).trans hx121_0
                replace p121 := eq_true p121
                replace q121 := eq_true q121
                go_wp2_with (first | ((with_reducible refine gate_callee (f := 95) rfl ?_); refine goesL_ (some 30) rfl rfl Try.func95 (by kernel_rfl) rfl #[.string (rdOf ByteArray.empty l0 x24_1)] rfl (by (try simp only [List.map_toArray, List.map_cons, List.map_nil]); first | done | rfl | (simp only [List.length_drop, List.length_take]; rfl)) ?_; (with_reducible refine (pack_Text.calls k1 (rdOf ByteArray.empty l0 x24_1) t122 t123 _ A10.out).mono ?_); rintro e w15 ⟨rfl, hb⟩; refine ⟨_, rfl, ?_⟩; have n0_ := Aside0.mk (Kd.R_below (by (with_reducible repeat (first | apply Kd.R_alloc | apply Kd.R_drewN | apply Kd.R_drew)); exact HO_6.out) hb); have n1_ := Aside0.mk (below_step (by repeat (first | (with_reducible first | exact HB.out | apply below_alloc | apply pw_below_drewN | apply below_drew1) | exact HB.out)) hb); clear HO_6; clear HB; have HO_6 := n0_; have HB := n1_; clear n0_ n1_; (try clear hb); (try clear hb2); (try clear hk); (try clear hi)))
                go_ret2
                exact ⟨by first | rfl | (simp [errW_none, errW_some] <;> rfl) | (simp [*, errW_none, errW_some] <;> rfl), by repeat (first | (with_reducible first | exact HB.out | apply below_alloc | apply pw_below_drewN | apply below_drew1) | exact HB.out)⟩
            · rw [if_neg c9] at H
              exact absurd H (by simp)
          · rw [if_neg c8] at H
            exact absurd H (by simp)
        · rw [if_neg c7] at H
          have c7b0 : decide (x24_1 < (l0.length : Int)) = false := decide_eq_false c7
          clear c7
          replace H := Option.bind_eq_some_iff.mp H
          obtain ⟨t127, A160, H⟩ := H
          replace H : (some (t127, 0)) = some (r1, r2) := H
          have A16 := Aside0.mk A160
          clear A160
          simp only [Option.some.injEq, Prod.mk.injEq] at H
          obtain ⟨rfl, rfl⟩ := H
          obtain ⟨Ao17, co17, eo17⟩ := Kd.R_slice HO_6.out
          subst eo17
          go_wp2_with (first | ((with_reducible refine gate_callee (f := 96) rfl ?_); refine goesL_ (some 42) rfl rfl Try.func96 (by kernel_rfl) rfl #[.slice Ao17 x6_1.length co17] rfl (by (try simp only [List.map_toArray, List.map_cons, List.map_nil]); first | done | rfl | (simp only [List.length_drop, List.length_take]; rfl)) ?_; (with_reducible refine (pack_join.calls _ _ x6_1 t127 _ ?side1 ?side2 A16.out).mono ?_); (case side1 => repeat (first | exact (Kd.R_reads' HO_6.out).2.2 | (with_reducible refine Kd.C_alloc ?_ _) | (with_reducible refine Kd.C_drewN ?_ _) | (with_reducible refine Kd.C_drew ?_))); (case side2 => exact (Kd.R_reads' HO_6.out).2.1); rintro e w18 ⟨rfl, hb⟩; refine ⟨_, rfl, ?_⟩; have n0_ := Aside0.mk (Kd.R_below (by (with_reducible repeat (first | apply Kd.R_alloc | apply Kd.R_drewN | apply Kd.R_drew)); exact HO_6.out) hb); have n1_ := Aside0.mk (below_step (by repeat (first | (with_reducible first | exact HB.out | apply below_alloc | apply pw_below_drewN | apply below_drew1) | exact HB.out)) hb); clear HO_6; clear HB; have HO_6 := n0_; have HB := n1_; clear n0_ n1_; (try clear hb); (try clear hb2); (try clear hk); (try clear hi)))
          go_ret2
          exact ⟨by first | rfl | (simp [errW_none, errW_some] <;> rfl) | (simp [*, errW_none, errW_some] <;> rfl), by repeat (first | (with_reducible first | exact HB.out | apply below_alloc | apply pw_below_drewN | apply below_drew1) | exact HB.out)⟩

end Go.Proofs.Ytahonoeiamjgbaa.G

-- Written by gprint.py, a program of this session, over the kit's print of the loaded functions. Not trusted: Lean checks it.
namespace Go.Proofs.Ytahonoeiamjgbaa.G
open Go.RowKit Go.Proofs.YtahonoeiamjgbaaW.PrintWords Go.Proofs.YtahonoeiamjgbaaW.PrintLast Go.Proofs.YtahonoeiamjgbaaW.PrintMore Go.Proofs.Ytahonoeiamjgbaa.Joins
attribute [local go_sem] max2_int min2_int max_two min_two max_three min_three max_four min_four   -- for this text's walks alone
set_option linter.unusedVariables false
set_option linter.unusedSimpArgs false

/-! ### pack_TakeList: function 93 -/
def pack_TakeList.l0 : Nat → ByteArray → Int → List ByteArray → Int → Int → Option (List ByteArray × Int × Int)
  | 0, _, _, _, _, _ => none
  | k + 1, x0, x8, x10, x28, x29 => if x29 < x28 then ((pack_TakeText.f k x0 x8).bind fun bt131 => (if bt131.2.2 = 0 then (if x10.length < 8796093022208 then (pack_TakeList.l0 k x0 bt131.2.1 (x10 ++ [bt131.1]) x28 (wrap64 (x29 + 1))) else (none)) else (some (([] : List ByteArray), 0, bt131.2.2)))) else (some (x10, x8, 0))
def pack_TakeList.f (k : Nat) (a0 : ByteArray) (a1 : Int) : Option (List ByteArray × Int × Int) := (pack_TakeNum.f k a0 a1).bind fun bt128 => (if bt128.2.2 = 0 then (if bt128.1 > 4000 then (some (([] : List ByteArray), 0, 32)) else (pack_TakeList.l0 k a0 bt128.2.1 ([] : List ByteArray) bt128.1 0)) else (some (([] : List ByteArray), 0, bt128.2.2)))
theorem pack_TakeList.mono_l : ∀ k, (∀ y0 y1 y2 y3 y4, LeO (pack_TakeList.l0 k y0 y1 y2 y3 y4) (pack_TakeList.l0 (k + 1) y0 y1 y2 y3 y4))
  | 0 => fun _ _ _ _ _ r h => by simp [pack_TakeList.l0] at h
  | k + 1 => by
    have ih0 := pack_TakeList.mono_l k
    · intro y0 y1 y2 y3 y4
      unfold pack_TakeList.l0
      repeat' first
      | (with_reducible exact ih0 _ _ _ _ _)
      | (with_reducible exact pack_TakeNum.mono _ _ _)
      | (with_reducible exact pack_TakeText.mono _ _ _)
      | (with_reducible exact LeO.refl _)
      | (with_reducible exact LeO.none _)
      | (with_reducible refine LeO.ite ?_ ?_)
      | (with_reducible refine LeO.bind ?_ (fun _ => ?_))
      | exact ih0 _ _ _ _ _
      | exact pack_TakeNum.mono _ _ _
      | exact pack_TakeText.mono _ _ _
      | exact LeO.none _
      | refine LeO.ite ?_ ?_
      | refine LeO.bind ?_ (fun _ => ?_)
theorem pack_TakeList.mono : ∀ a0 a1 k, LeO (pack_TakeList.f k a0 a1) (pack_TakeList.f (k + 1) a0 a1) := by
  intro a0 a1 k
  have ih0 := pack_TakeList.mono_l k
  unfold pack_TakeList.f
  repeat' first
      | (with_reducible exact ih0 _ _ _ _ _)
      | (with_reducible exact pack_TakeNum.mono _ _ _)
      | (with_reducible exact pack_TakeText.mono _ _ _)
      | (with_reducible exact LeO.refl _)
      | (with_reducible exact LeO.none _)
      | (with_reducible refine LeO.ite ?_ ?_)
      | (with_reducible refine LeO.bind ?_ (fun _ => ?_))
      | exact ih0 _ _ _ _ _
      | exact pack_TakeNum.mono _ _ _
      | exact pack_TakeText.mono _ _ _
      | exact LeO.none _
      | refine LeO.ite ?_ ?_
      | refine LeO.bind ?_ (fun _ => ?_)
set_option maxHeartbeats 8000000 in
set_option maxRecDepth 100000 in
theorem pack_TakeList.calls (k : Nat) (a0 : ByteArray) (a1 : Int) (r1 : List ByteArray) (r2 : Int) (r3 : Int) (w : World) (h : pack_TakeList.f k a0 a1 = some (r1, r2, r3)) :
    Calls Try.prog 93 #[.string a0, .int .i64 a1] w fun e w' => ∃ v0_ : Value, e = .returned (.tuple #[v0_, .int .i64 r2, .int .i64 r3]) ∧ Kd.R Kd.string 9 w' w.heap.size (fun _ => True) v0_ r1 ∧ Below w.heap.size w w' := by
  have HB := Aside0.mk (Below.refl w.heap.size w)
  have H : ((pack_TakeNum.f k a0 a1).bind fun bt128 => (if bt128.2.2 = 0 then (if bt128.1 > 4000 then (some (([] : List ByteArray), 0, 32)) else (pack_TakeList.l0 k a0 bt128.2.1 ([] : List ByteArray) bt128.1 0)) else (some (([] : List ByteArray), 0, bt128.2.2)))) = some (r1, r2, r3) := h
  clear h
  replace H := Option.bind_eq_some_iff.mp H
  obtain ⟨⟨t128, t129, t130⟩, A30, H⟩ := H
  replace H : (if t130 = 0 then (if t128 > 4000 then (some (([] : List ByteArray), 0, 32)) else (pack_TakeList.l0 k a0 t129 ([] : List ByteArray) t128 0)) else (some (([] : List ByteArray), 0, t130))) = some (r1, r2, r3) := H
  have A3 := Aside0.mk A30
  clear A30
  by_cases c4 : t130 = 0
  · rw [if_pos c4] at H
    have c4b0 : (t130 == 0) = true := beq_iff_eq.mpr c4
    have c4b1 : (t130 != 0) = false := bne_eq_false_iff_eq.mpr c4
    clear c4
    by_cases c5 : t128 > 4000
    · rw [if_pos c5] at H
      have c5b0 : decide (4000 < t128) = true := decide_eq_true c5
      clear c5
      simp only [Option.some.injEq, Prod.mk.injEq] at H
      obtain ⟨rfl, rfl, rfl⟩ := H
      go_enter Try.func93, Try.ntmps93
      go_wp2_with (first | ((with_reducible refine gate_callee (f := 91) rfl ?_); refine goesL_ (some 17) rfl rfl Try.func91 (by kernel_rfl) rfl #[.string a0, .int .i64 a1] rfl (by (try simp only [List.map_toArray, List.map_cons, List.map_nil]); first | done | rfl | (simp only [List.length_drop, List.length_take]; rfl)) ?_; (with_reducible refine (pack_TakeNum.calls k a0 a1 t128 t129 t130 _ A3.out).mono ?_); rintro e w6 ⟨rfl, hb⟩; refine ⟨_, rfl, ?_⟩; have n0_ := Aside0.mk (below_step (by repeat (first | (with_reducible first | exact HB.out | apply below_alloc | apply pw_below_drewN | apply below_drew1) | exact HB.out)) hb); clear HB; have HB := n0_; clear n0_; (try clear hb); (try clear hb2); (try clear hk); (try clear hi)))
      go_ret3
      exact ⟨_, by first | rfl | (simp [errW_none, errW_some] <;> rfl) | (simp [*, errW_none, errW_some] <;> rfl), by first | exact Kd.R_nil _ _ _ _ _ | exact Kd.N_nil _ _ _ _ _ | exact Kd.V_nil _ _ _ _ _ | exact Kd.Q_nil _ _ _ _ _ | exact Kd.S_nil _ _ _ _ _, by repeat (first | (with_reducible first | exact HB.out | apply below_alloc | apply pw_below_drewN | apply below_drew1) | exact HB.out)⟩
    · rw [if_neg c5] at H
      have c5b0 : decide (4000 < t128) = false := decide_eq_false c5
      clear c5
      have H' := Aside0.mk H
      clear H
      go_enter Try.func93, Try.ntmps93
      go_wp2_with (first | ((with_reducible refine gate_callee (f := 91) rfl ?_); refine goesL_ (some 17) rfl rfl Try.func91 (by kernel_rfl) rfl #[.string a0, .int .i64 a1] rfl (by (try simp only [List.map_toArray, List.map_cons, List.map_nil]); first | done | rfl | (simp only [List.length_drop, List.length_take]; rfl)) ?_; (with_reducible refine (pack_TakeNum.calls k a0 a1 t128 t129 t130 _ A3.out).mono ?_); rintro e w7 ⟨rfl, hb⟩; refine ⟨_, rfl, ?_⟩; have n0_ := Aside0.mk (below_step (by repeat (first | (with_reducible first | exact HB.out | apply below_alloc | apply pw_below_drewN | apply below_drew1) | exact HB.out)) hb); clear HB; have HB := n0_; clear n0_; (try clear hb); (try clear hb2); (try clear hk); (try clear hi)))
      go_loopg [8, 10, 29] k (fun kq v8 v10 v29 w' => ∃ (x8_1 : Int) (x10_1 : List ByteArray) (x29_1 : Int), v8 = .int .i64 x8_1 ∧ v29 = .int .i64 x29_1 ∧ Aside0 (pack_TakeList.l0 kq a0 x8_1 x10_1 t128 x29_1 = some (r1, r2, r3)) ∧ Aside0 (kq ≤ k) ∧ Aside0 (Kd.R Kd.string 9 w' w.heap.size (fun _ => True) v10 x10_1) ∧ Aside0 (Below w.heap.size w w'))
      case atStart => exact ⟨(t129), (([] : List ByteArray)), (0), (by first | rfl | (simp; done) | (simp [*]; done)), (by first | rfl | (simp; done) | (simp [*]; done)), H', ⟨Nat.le_refl _⟩, ⟨by first | exact Kd.R_nil _ _ _ _ _ | exact Kd.N_nil _ _ _ _ _ | exact Kd.V_nil _ _ _ _ _ | exact Kd.Q_nil _ _ _ _ _ | exact Kd.S_nil _ _ _ _ _⟩, ⟨by repeat (first | (with_reducible first | exact HB.out | apply below_alloc | apply pw_below_drewN | apply below_drew1) | exact HB.out)⟩⟩
      case round =>
        clear H'
        try clear p2
        try clear c4
        try clear c4b0
        try clear c4b1
        try clear c5
        try clear c5b0
        obtain ⟨x8_1, x10_1, x29_1, rfl, rfl, HA, HK1, HO_10, HB⟩ := hrel
        cases gk with
        | zero => exact absurd HA.out (by simp [pack_TakeList.l0])
        | succ k1 =>
          have H := HA.out
          clear HA
          simp only [pack_TakeList.l0] at H
          by_cases c8 : x29_1 < t128
          · rw [if_pos c8] at H
            have c8b0 : decide (x29_1 < t128) = true := decide_eq_true c8
            clear c8
            replace H := Option.bind_eq_some_iff.mp H
            obtain ⟨⟨t131, t132, t133⟩, A90, H⟩ := H
            replace H : (if t133 = 0 then (if x10_1.length < 8796093022208 then (pack_TakeList.l0 k1 a0 t132 (x10_1 ++ [t131]) t128 (wrap64 (x29_1 + 1))) else (none)) else (some (([] : List ByteArray), 0, t133))) = some (r1, r2, r3) := H
            have A9 := Aside0.mk A90
            clear A90
            by_cases c10 : t133 = 0
            · rw [if_pos c10] at H
              have c10b0 : (t133 == 0) = true := beq_iff_eq.mpr c10
              have c10b1 : (t133 != 0) = false := bne_eq_false_iff_eq.mpr c10
              clear c10
              by_cases c11 : x10_1.length < 8796093022208
              · rw [if_pos c11] at H
                have LMc11 := Aside0.mk c11
                clear c11
                obtain ⟨y134, hy134⟩ : ∃ y_ : List ByteArray, y_ = (x10_1 ++ [t131]) := ⟨_, rfl⟩
                replace H : (pack_TakeList.l0 k1 a0 t132 y134 t128 (wrap64 (x29_1 + 1))) = some (r1, r2, r3) := by first | (rw [hy134]; with_reducible exact H) | (have H2_ := (Option.bind_some _ _).symm.trans H; rw [hy134]; with_reducible exact H2_) | (have H2_ := (Option.bind_some _ _).symm.trans H; with_reducible exact H2_) | with_reducible exact H | (rw [hy134]; exact H) | exact H
                have Ny134 := Aside0.mk hy134
                clear hy134
                have H' := Aside0.mk H
                clear H
                go_wp2_with (first | ((with_reducible refine gate_callee (f := 97) rfl ?_); refine goesL_ (some 34) rfl rfl Try.func97 (by kernel_rfl) rfl #[.string a0, .int .i64 x8_1] rfl (by (try simp only [List.map_toArray, List.map_cons, List.map_nil]); first | done | rfl | (simp only [List.length_drop, List.length_take]; rfl)) ?_; (with_reducible refine (pack_TakeText.calls k1 a0 x8_1 t131 t132 t133 _ A9.out).mono ?_); rintro e w12 ⟨rfl, hb⟩; refine ⟨_, rfl, ?_⟩; have n0_ := Aside0.mk (Kd.R_below (by (with_reducible repeat (first | apply Kd.R_alloc | apply Kd.R_drewN | apply Kd.R_drew)); exact HO_10.out) hb); have n1_ := Aside0.mk (below_step (by repeat (first | (with_reducible first | exact HB.out | apply below_alloc | apply pw_below_drewN | apply below_drew1) | exact HB.out)) hb); clear HO_10; clear HB; have HO_10 := n0_; have HB := n1_; clear n0_ n1_; (try clear hb); (try clear hb2); (try clear hk); (try clear hi)) | ((with_reducible refine gate_builtin (b := .append) (xs := #[.tmp 41, .tmp 43]) rfl ?_); at_builtin; refine Kd.R_append Kd.string (w0 := w) w.heap.size rfl (.tmp 41) (.tmp 43) 23 9 (.string ⟨#[]⟩) 16 rfl Try.underlying23 info9 rfl (by decide) (by omega) u10 x10_1 t131 [.string t131] (fun _ => True) (fun _ => False) rfl rfl ?aP (fun _ hk => hk.elim) ?aF ?aO ?aB ?aS ?aL ?_; (case aP => exact rfl); (case aB => exact (by repeat (first | (with_reducible first | exact HB.out | apply below_alloc | apply pw_below_drewN | apply below_drew1) | exact HB.out))); (case aF => exact (fun _ _ => trivial)); (case aO => exact (by (with_reducible repeat (first | apply Kd.R_alloc | apply Kd.R_drewN | apply Kd.R_drew)); exact HO_10.out)); (case aS => exact (below_size (by repeat (first | (with_reducible first | exact HB.out | apply below_alloc | apply pw_below_drewN | apply below_drew1) | exact HB.out)))); (case aL => have := LMc11.out; omega); intro v135 w13 ho hb hg hat; rw [← Ny134.out] at ho; have n0_ := Aside0.mk (hb); have n1_ := Aside0.mk (ho); clear HB; clear HO_10; have HB := n0_; have HO136 := n1_; clear n0_ n1_; clear ho hb hg hat))
                go_roundg k1
                case measure => have := HK1.out; omega
                case rel => exact ⟨(t132), (y134), (wrap64 (x29_1 + 1)), (by first | rfl | (simp; done) | (simp [*]; done)), (by first | rfl | (simp; done) | (simp [*]; done)), H', ⟨by have := HK1.out; omega⟩, ⟨by (with_reducible repeat (first | apply Kd.R_alloc | apply Kd.R_drewN | apply Kd.R_drew)); exact HO136.out⟩, ⟨by repeat (first | (with_reducible first | exact HB.out | apply below_alloc | apply pw_below_drewN | apply below_drew1) | exact HB.out)⟩⟩
              · rw [if_neg c11] at H
                exact absurd H (by simp)
            · rw [if_neg c10] at H
              have c10b0 : (t133 == 0) = false := beq_eq_false_iff_ne.mpr c10
              have c10b1 : (t133 != 0) = true := bne_iff_ne.mpr c10
              simp only [Option.some.injEq, Prod.mk.injEq] at H
              obtain ⟨rfl, rfl, rfl⟩ := H
              go_wp2_with (first | ((with_reducible refine gate_callee (f := 97) rfl ?_); refine goesL_ (some 34) rfl rfl Try.func97 (by kernel_rfl) rfl #[.string a0, .int .i64 x8_1] rfl (by (try simp only [List.map_toArray, List.map_cons, List.map_nil]); first | done | rfl | (simp only [List.length_drop, List.length_take]; rfl)) ?_; (with_reducible refine (pack_TakeText.calls k1 a0 x8_1 t131 t132 t133 _ A9.out).mono ?_); rintro e w14 ⟨rfl, hb⟩; refine ⟨_, rfl, ?_⟩; have n0_ := Aside0.mk (Kd.R_below (by (with_reducible repeat (first | apply Kd.R_alloc | apply Kd.R_drewN | apply Kd.R_drew)); exact HO_10.out) hb); have n1_ := Aside0.mk (below_step (by repeat (first | (with_reducible first | exact HB.out | apply below_alloc | apply pw_below_drewN | apply below_drew1) | exact HB.out)) hb); clear HO_10; clear HB; have HO_10 := n0_; have HB := n1_; clear n0_ n1_; (try clear hb); (try clear hb2); (try clear hk); (try clear hi)))
              go_ret3
              exact ⟨_, by first | rfl | (simp [errW_none, errW_some] <;> rfl) | (simp [*, errW_none, errW_some] <;> rfl), by first | exact Kd.R_nil _ _ _ _ _ | exact Kd.N_nil _ _ _ _ _ | exact Kd.V_nil _ _ _ _ _ | exact Kd.Q_nil _ _ _ _ _ | exact Kd.S_nil _ _ _ _ _, by repeat (first | (with_reducible first | exact HB.out | apply below_alloc | apply pw_below_drewN | apply below_drew1) | exact HB.out)⟩
          · rw [if_neg c8] at H
            have c8b0 : decide (x29_1 < t128) = false := decide_eq_false c8
            clear c8
            simp only [Option.some.injEq, Prod.mk.injEq] at H
            obtain ⟨rfl, rfl, rfl⟩ := H
            go_wp2
            go_ret3
            exact ⟨_, by first | rfl | (simp [errW_none, errW_some] <;> rfl) | (simp [*, errW_none, errW_some] <;> rfl), by (with_reducible repeat (first | apply Kd.R_alloc | apply Kd.R_drewN | apply Kd.R_drew)); exact HO_10.out, by repeat (first | (with_reducible first | exact HB.out | apply below_alloc | apply pw_below_drewN | apply below_drew1) | exact HB.out)⟩
  · rw [if_neg c4] at H
    have c4b0 : (t130 == 0) = false := beq_eq_false_iff_ne.mpr c4
    have c4b1 : (t130 != 0) = true := bne_iff_ne.mpr c4
    simp only [Option.some.injEq, Prod.mk.injEq] at H
    obtain ⟨rfl, rfl, rfl⟩ := H
    go_enter Try.func93, Try.ntmps93
    go_wp2_with (first | ((with_reducible refine gate_callee (f := 91) rfl ?_); refine goesL_ (some 17) rfl rfl Try.func91 (by kernel_rfl) rfl #[.string a0, .int .i64 a1] rfl (by (try simp only [List.map_toArray, List.map_cons, List.map_nil]); first | done | rfl | (simp only [List.length_drop, List.length_take]; rfl)) ?_; (with_reducible refine (pack_TakeNum.calls k a0 a1 t128 t129 t130 _ A3.out).mono ?_); rintro e w15 ⟨rfl, hb⟩; refine ⟨_, rfl, ?_⟩; have n0_ := Aside0.mk (below_step (by repeat (first | (with_reducible first | exact HB.out | apply below_alloc | apply pw_below_drewN | apply below_drew1) | exact HB.out)) hb); clear HB; have HB := n0_; clear n0_; (try clear hb); (try clear hb2); (try clear hk); (try clear hi)))
    go_ret3
    exact ⟨_, by first | rfl | (simp [errW_none, errW_some] <;> rfl) | (simp [*, errW_none, errW_some] <;> rfl), by first | exact Kd.R_nil _ _ _ _ _ | exact Kd.N_nil _ _ _ _ _ | exact Kd.V_nil _ _ _ _ _ | exact Kd.Q_nil _ _ _ _ _ | exact Kd.S_nil _ _ _ _ _, by repeat (first | (with_reducible first | exact HB.out | apply below_alloc | apply pw_below_drewN | apply below_drew1) | exact HB.out)⟩

/-! ### odysseylaw17_texts: function 29 -/
def odysseylaw17_texts.l0 : Nat → List ByteArray → List ByteArray → Int → Option (Bool)
  | 0, _, _, _ => none
  | k + 1, x0, x1, x5 => if x5 < (x0.length : Int) then (if 0 ≤ x5 then (if x5 < (x1.length : Int) then (if (rdOf ByteArray.empty x0 x5).toList = (rdOf ByteArray.empty x1 x5).toList then (odysseylaw17_texts.l0 k x0 x1 (wrap64 (x5 + 1))) else (some false)) else (none)) else (none)) else (some true)
def odysseylaw17_texts.f (k : Nat) (l0 : List ByteArray) (l1 : List ByteArray) : Option (Bool) := if (l0.length : Int) = (l1.length : Int) then (odysseylaw17_texts.l0 k l0 l1 0) else (some false)
theorem odysseylaw17_texts.mono_l : ∀ k, (∀ y0 y1 y2, LeO (odysseylaw17_texts.l0 k y0 y1 y2) (odysseylaw17_texts.l0 (k + 1) y0 y1 y2))
  | 0 => fun _ _ _ r h => by simp [odysseylaw17_texts.l0] at h
  | k + 1 => by
    have ih0 := odysseylaw17_texts.mono_l k
    · intro y0 y1 y2
      unfold odysseylaw17_texts.l0
      repeat' first
      | (with_reducible exact ih0 _ _ _)
      | (with_reducible exact LeO.refl _)
      | (with_reducible exact LeO.none _)
      | (with_reducible refine LeO.ite ?_ ?_)
      | (with_reducible refine LeO.bind ?_ (fun _ => ?_))
      | exact ih0 _ _ _
      | exact LeO.none _
      | refine LeO.ite ?_ ?_
      | refine LeO.bind ?_ (fun _ => ?_)
theorem odysseylaw17_texts.mono : ∀ a0 a1 k, LeO (odysseylaw17_texts.f k a0 a1) (odysseylaw17_texts.f (k + 1) a0 a1) := by
  intro a0 a1 k
  have ih0 := odysseylaw17_texts.mono_l k
  unfold odysseylaw17_texts.f
  repeat' first
      | (with_reducible exact ih0 _ _ _)
      | (with_reducible exact LeO.refl _)
      | (with_reducible exact LeO.none _)
      | (with_reducible refine LeO.ite ?_ ?_)
      | (with_reducible refine LeO.bind ?_ (fun _ => ?_))
      | exact ih0 _ _ _
      | exact LeO.none _
      | refine LeO.ite ?_ ?_
      | refine LeO.bind ?_ (fun _ => ?_)
set_option maxHeartbeats 8000000 in
set_option maxRecDepth 100000 in
theorem odysseylaw17_texts.calls (k : Nat) (A0 : Option Addr) (c0 : Nat) (l0 : List ByteArray) (A1 : Option Addr) (c1 : Nat) (l1 : List ByteArray) (r : Bool) (w : World) (hr0 : Kd.C Kd.string w A0 l0.length l0) (hc0 : l0.length ≤ c0) (hr1 : Kd.C Kd.string w A1 l1.length l1) (hc1 : l1.length ≤ c1) (h : odysseylaw17_texts.f k l0 l1 = some r) :
    Calls Try.prog 29 #[.slice A0 l0.length c0, .slice A1 l1.length c1] w fun e w' => e = .returned (.bool r) ∧ Drawn0 w w' := by
  have HR0 := Aside0.mk hr0
  have HC0 := Aside0.mk hc0
  clear hr0 hc0
  have HR1 := Aside0.mk hr1
  have HC1 := Aside0.mk hc1
  clear hr1 hc1
  have H : (if (l0.length : Int) = (l1.length : Int) then (odysseylaw17_texts.l0 k l0 l1 0) else (some false)) = some r := h
  clear h
  by_cases c3 : (l0.length : Int) = (l1.length : Int)
  · rw [if_pos c3] at H
    have c3b0 : ((l0.length : Int) == (l1.length : Int)) = true := beq_iff_eq.mpr c3
    have c3b1 : ((l0.length : Int) != (l1.length : Int)) = false := bne_eq_false_iff_eq.mpr c3
    have c3b2 : (l0.length == l1.length) = true := by first | simpa using c3 | (simp at c3 ⊢; omega)
    clear c3
    have H' := Aside0.mk H
    clear H
    go_enter Try.func29, Try.ntmps29
    go_wp2
    repeat (go_quiet (fail); try go_wp2)
    go_loopg [5] k (fun kq v5 w' => ∃ (x5_1 : Int), v5 = .int .i64 x5_1 ∧ Aside0 (odysseylaw17_texts.l0 kq l0 l1 x5_1 = some r) ∧ Aside0 (kq ≤ k) ∧ Drawn0 w w')
    case atStart => exact ⟨(0), (by first | rfl | (simp; done) | (simp [*]; done)), H', ⟨Nat.le_refl _⟩, by repeat (first | exact Drawn0.refl _ | apply Drawn0.step)⟩
    case round =>
      clear H'
      try clear c1
      try clear c2
      try clear p2
      try clear c3
      try clear c3b0
      try clear c3b1
      try clear c3b2
      obtain ⟨x5_1, rfl, HA, HK1, ⟨m1, rfl⟩⟩ := hrel
      cases gk with
      | zero => exact absurd HA.out (by simp [odysseylaw17_texts.l0])
      | succ k1 =>
        have H := HA.out
        clear HA
        simp only [odysseylaw17_texts.l0] at H
        by_cases c4 : x5_1 < (l0.length : Int)
        · rw [if_pos c4] at H
          have c4b0 : decide (x5_1 < (l0.length : Int)) = true := decide_eq_true c4
          clear c4
          by_cases c5 : 0 ≤ x5_1
          · rw [if_pos c5] at H
            have c5b0 : decide (0 ≤ x5_1) = true := decide_eq_true c5
            clear c5
            by_cases c6 : x5_1 < (l1.length : Int)
            · rw [if_pos c6] at H
              have c6b0 : decide (x5_1 < (l1.length : Int)) = true := decide_eq_true c6
              clear c6
              by_cases c7 : (rdOf ByteArray.empty l0 x5_1).toList = (rdOf ByteArray.empty l1 x5_1).toList
              · rw [if_pos c7] at H
                have c7b0 : ((rdOf ByteArray.empty l0 x5_1).toList == (rdOf ByteArray.empty l1 x5_1).toList) = true := beq_iff_eq.mpr c7
                have c7b1 : ((rdOf ByteArray.empty l0 x5_1).toList != (rdOf ByteArray.empty l1 x5_1).toList) = false := bne_eq_false_iff_eq.mpr c7
                clear c7
                have H' := Aside0.mk H
                clear H
                have p137 : 0 ≤ (x5_1 : Int) := of_decide_eq_true (by first | (with_reducible assumption) | assumption)
                have q137 : x5_1 < (l0.length : Int) := of_decide_eq_true (by first | (with_reducible assumption) | assumption)
                obtain ⟨ad137, e137, hx137_0⟩ := Kd.at_string HR0.out x5_1 p137 q137
                cases e137
                replace p137 := eq_true p137
                replace q137 := eq_true q137
                have p138 : 0 ≤ (x5_1 : Int) := of_decide_eq_true (by first | (with_reducible assumption) | assumption)
                have q138 : x5_1 < (l1.length : Int) := of_decide_eq_true (by first | (with_reducible assumption) | assumption)
                obtain ⟨ad138, e138, hx138_0⟩ := Kd.at_string HR1.out x5_1 p138 q138
                cases e138
                replace p138 := eq_true p138
                replace q138 := eq_true q138
                go_wp2
                repeat (go_quiet (fail); try go_wp2)
                go_roundg k1
                case measure => have := HK1.out; omega
                case rel => exact ⟨(wrap64 (x5_1 + 1)), (by first | rfl | (simp; done) | (simp [*]; done)), H', ⟨by have := HK1.out; omega⟩, by repeat (first | exact Drawn0.refl _ | apply Drawn0.step)⟩
              · rw [if_neg c7] at H
                have c7b0 : ((rdOf ByteArray.empty l0 x5_1).toList == (rdOf ByteArray.empty l1 x5_1).toList) = false := beq_eq_false_iff_ne.mpr c7
                have c7b1 : ((rdOf ByteArray.empty l0 x5_1).toList != (rdOf ByteArray.empty l1 x5_1).toList) = true := bne_iff_ne.mpr c7
                obtain rfl := Option.some.inj H
                have p137 : 0 ≤ (x5_1 : Int) := of_decide_eq_true (by first | (with_reducible assumption) | assumption)
                have q137 : x5_1 < (l0.length : Int) := of_decide_eq_true (by first | (with_reducible assumption) | assumption)
                obtain ⟨ad137, e137, hx137_0⟩ := Kd.at_string HR0.out x5_1 p137 q137
                cases e137
                replace p137 := eq_true p137
                replace q137 := eq_true q137
                have p138 : 0 ≤ (x5_1 : Int) := of_decide_eq_true (by first | (with_reducible assumption) | assumption)
                have q138 : x5_1 < (l1.length : Int) := of_decide_eq_true (by first | (with_reducible assumption) | assumption)
                obtain ⟨ad138, e138, hx138_0⟩ := Kd.at_string HR1.out x5_1 p138 q138
                cases e138
                replace p138 := eq_true p138
                replace q138 := eq_true q138
                go_wp2
                repeat (go_quiet (fail); try go_wp2)
                go_ret
                exact ⟨by first | rfl | (simp; done) | (simp [*]; done), by repeat (first | exact Drawn0.refl _ | apply Drawn0.step)⟩
            · rw [if_neg c6] at H
              exact absurd H (by simp)
          · rw [if_neg c5] at H
            exact absurd H (by simp)
        · rw [if_neg c4] at H
          have c4b0 : decide (x5_1 < (l0.length : Int)) = false := decide_eq_false c4
          clear c4
          obtain rfl := Option.some.inj H
          go_wp2
          repeat (go_quiet (fail); try go_wp2)
          go_ret
          exact ⟨by first | rfl | (simp; done) | (simp [*]; done), by repeat (first | exact Drawn0.refl _ | apply Drawn0.step)⟩
  · rw [if_neg c3] at H
    have c3b0 : ((l0.length : Int) == (l1.length : Int)) = false := beq_eq_false_iff_ne.mpr c3
    have c3b1 : ((l0.length : Int) != (l1.length : Int)) = true := bne_iff_ne.mpr c3
    have c3b2 : (l0.length == l1.length) = false := by first | simpa using c3 | (simp at c3 ⊢; omega)
    obtain rfl := Option.some.inj H
    go_enter Try.func29, Try.ntmps29
    go_wp2
    repeat (go_quiet (fail); try go_wp2)
    go_ret
    exact ⟨by first | rfl | (simp; done) | (simp [*]; done), by repeat (first | exact Drawn0.refl _ | apply Drawn0.step)⟩

/-! ### odysseylaw17_SameLetter: function 10 -/
def odysseylaw17_SameLetter.f (k : Nat) (a0_0 : Int) (a0_1 : Int) (a0_2 : Int) (a0_3 : Int) (a0_4 : Int) (l0_5 : List ByteArray) (a1_0 : Int) (a1_1 : Int) (a1_2 : Int) (a1_3 : Int) (a1_4 : Int) (l1_5 : List ByteArray) : Option (Bool) := if a0_0 = a1_0 then (if a0_1 = a1_1 then (if a0_2 = a1_2 then (if a0_3 = a1_3 then (if a0_4 = a1_4 then ((odysseylaw17_texts.f k l0_5 l1_5).bind fun t141 => (some t141)) else (some false)) else (some false)) else (some false)) else (some false)) else (some false)
theorem odysseylaw17_SameLetter.mono : ∀ a0 a1 a2 a3 a4 a5 a6 a7 a8 a9 a10 a11 k, LeO (odysseylaw17_SameLetter.f k a0 a1 a2 a3 a4 a5 a6 a7 a8 a9 a10 a11) (odysseylaw17_SameLetter.f (k + 1) a0 a1 a2 a3 a4 a5 a6 a7 a8 a9 a10 a11) := by
  intro a0 a1 a2 a3 a4 a5 a6 a7 a8 a9 a10 a11 k
  unfold odysseylaw17_SameLetter.f
  repeat' first
      | (with_reducible exact odysseylaw17_texts.mono _ _ _)
      | (with_reducible exact LeO.refl _)
      | (with_reducible exact LeO.none _)
      | (with_reducible refine LeO.ite ?_ ?_)
      | (with_reducible refine LeO.bind ?_ (fun _ => ?_))
      | exact odysseylaw17_texts.mono _ _ _
      | exact LeO.none _
      | refine LeO.ite ?_ ?_
      | refine LeO.bind ?_ (fun _ => ?_)
set_option maxHeartbeats 8000000 in
set_option maxRecDepth 100000 in
theorem odysseylaw17_SameLetter.calls (k : Nat) (a0_0 : Int) (a0_1 : Int) (a0_2 : Int) (a0_3 : Int) (a0_4 : Int) (A0_5 : Option Addr) (c0_5 : Nat) (l0_5 : List ByteArray) (a1_0 : Int) (a1_1 : Int) (a1_2 : Int) (a1_3 : Int) (a1_4 : Int) (A1_5 : Option Addr) (c1_5 : Nat) (l1_5 : List ByteArray) (r : Bool) (w : World) (hr0_5 : Kd.C Kd.string w A0_5 l0_5.length l0_5) (hc0_5 : l0_5.length ≤ c0_5) (hr1_5 : Kd.C Kd.string w A1_5 l1_5.length l1_5) (hc1_5 : l1_5.length ≤ c1_5) (h : odysseylaw17_SameLetter.f k a0_0 a0_1 a0_2 a0_3 a0_4 l0_5 a1_0 a1_1 a1_2 a1_3 a1_4 l1_5 = some r) :
    Calls Try.prog 10 #[.agg #[.int .i64 a0_0, .int .i64 a0_1, .int .i64 a0_2, .int .i64 a0_3, .int .i64 a0_4, .slice A0_5 l0_5.length c0_5], .agg #[.int .i64 a1_0, .int .i64 a1_1, .int .i64 a1_2, .int .i64 a1_3, .int .i64 a1_4, .slice A1_5 l1_5.length c1_5]] w fun e w' => e = .returned (.bool r) ∧ Below w.heap.size w w' := by
  have hu25 := Try.underlying25
  have HR0_5 := Aside0.mk hr0_5
  have HC0_5 := Aside0.mk hc0_5
  clear hr0_5 hc0_5
  have HR1_5 := Aside0.mk hr1_5
  have HC1_5 := Aside0.mk hc1_5
  clear hr1_5 hc1_5
  have HB := Aside0.mk (Below.refl w.heap.size w)
  have H : (if a0_0 = a1_0 then (if a0_1 = a1_1 then (if a0_2 = a1_2 then (if a0_3 = a1_3 then (if a0_4 = a1_4 then ((odysseylaw17_texts.f k l0_5 l1_5).bind fun t141 => (some t141)) else (some false)) else (some false)) else (some false)) else (some false)) else (some false)) = some r := h
  clear h
  by_cases c3 : a0_0 = a1_0
  · rw [if_pos c3] at H
    have c3b0 : (a0_0 == a1_0) = true := beq_iff_eq.mpr c3
    have c3b1 : (a0_0 != a1_0) = false := bne_eq_false_iff_eq.mpr c3
    clear c3
    by_cases c4 : a0_1 = a1_1
    · rw [if_pos c4] at H
      have c4b0 : (a0_1 == a1_1) = true := beq_iff_eq.mpr c4
      have c4b1 : (a0_1 != a1_1) = false := bne_eq_false_iff_eq.mpr c4
      clear c4
      by_cases c5 : a0_2 = a1_2
      · rw [if_pos c5] at H
        have c5b0 : (a0_2 == a1_2) = true := beq_iff_eq.mpr c5
        have c5b1 : (a0_2 != a1_2) = false := bne_eq_false_iff_eq.mpr c5
        clear c5
        by_cases c6 : a0_3 = a1_3
        · rw [if_pos c6] at H
          have c6b0 : (a0_3 == a1_3) = true := beq_iff_eq.mpr c6
          have c6b1 : (a0_3 != a1_3) = false := bne_eq_false_iff_eq.mpr c6
          clear c6
          by_cases c7 : a0_4 = a1_4
          · rw [if_pos c7] at H
            have c7b0 : (a0_4 == a1_4) = true := beq_iff_eq.mpr c7
            have c7b1 : (a0_4 != a1_4) = false := bne_eq_false_iff_eq.mpr c7
            clear c7
            replace H := Option.bind_eq_some_iff.mp H
            obtain ⟨t141, A80, H⟩ := H
            replace H : (some t141) = some r := H
            have A8 := Aside0.mk A80
            clear A80
            obtain rfl := Option.some.inj H
            go_enter Try.func10, Try.ntmps10
            go_wp2_with (first | ((with_reducible refine gate_dst (N := 2) rfl ?_); refine box_event ?hg (N := 2) ?hd (cs := #[.int .i64 a0_0, .int .i64 a0_1, .int .i64 a0_2, .int .i64 a0_3, .int .i64 a0_4, .slice A0_5 l0_5.length c0_5]) (t := 25) ?hr ?_; (case hd => rfl); (case hg => rfl); (case hr => first | (go_simp; done) | (go_simp; rfl)); intro gb139 hg w9 hbox hb; have n0_ := Aside0.mk (below_step (by repeat (first | (with_reducible first | exact HB.out | apply below_alloc | apply pw_below_drewN | apply below_drew1) | exact HB.out)) hb); have n1_ := Aside0.mk (hbox); have n2_ := Aside0.mk ((by rw [hg]; exact (below_size (by repeat (first | (with_reducible first | exact HB.out | apply below_alloc | apply pw_below_drewN | apply below_drew1) | exact HB.out))) : w.heap.size ≤ gb139)); have n3_ := Aside0.mk ((by rw [hg]; exact (below_size (by repeat (first | (with_reducible first | exact HB.out | apply below_alloc | apply pw_below_drewN | apply below_drew1) | exact HB.out))) : w.heap.size ≤ gb139)); clear HB; have HB := n0_; have BK139 := n1_; have GW139 := n2_; have GE139 := n3_; clear n0_ n1_ n2_ n3_; clear hb hbox hg) | ((with_reducible refine gate_dst (N := 3) rfl ?_); refine box_event ?hg (N := 3) ?hd (cs := #[.int .i64 a1_0, .int .i64 a1_1, .int .i64 a1_2, .int .i64 a1_3, .int .i64 a1_4, .slice A1_5 l1_5.length c1_5]) (t := 25) ?hr ?_; (case hd => rfl); (case hg => rfl); (case hr => first | (go_simp; done) | (go_simp; rfl)); intro gb140 hg w10 hbox hb; have n0_ := Aside0.mk (blk_below (g := gb139) (o := .cells #[.int .i64 a0_0, .int .i64 a0_1, .int .i64 a0_2, .int .i64 a0_3, .int .i64 a0_4, .slice A0_5 l0_5.length c0_5] 25 (0, 0)) (by (with_reducible repeat (first | refine blk_drewN ?_ _ | refine blk_drew ?_ | refine blk_alloc ?_ _)); exact BK139.out) hb); have n1_ := Aside0.mk (below_step (by repeat (first | (with_reducible first | exact HB.out | apply below_alloc | apply pw_below_drewN | apply below_drew1 | refine below_set ?_ GE139.out) | exact HB.out)) hb); have n2_ := Aside0.mk (hbox); have n3_ := Aside0.mk ((by rw [hg]; exact (below_size (by repeat (first | (with_reducible first | exact HB.out | apply below_alloc | apply pw_below_drewN | apply below_drew1 | refine below_set ?_ GE139.out) | exact HB.out))) : w.heap.size ≤ gb140)); have n4_ := Aside0.mk ((by rw [hg]; exact (below_size (by repeat (first | (with_reducible first | exact HB.out | apply below_alloc | apply pw_below_drewN | apply below_drew1 | refine below_set ?_ GE139.out) | exact HB.out))) : w.heap.size ≤ gb140)); have n5_ := Aside0.mk ((by rw [hg]; exact Nat.ne_of_lt (blk_lt (g := gb139) (o := .cells #[.int .i64 a0_0, .int .i64 a0_1, .int .i64 a0_2, .int .i64 a0_3, .int .i64 a0_4, .slice A0_5 l0_5.length c0_5] 25 (0, 0)) (by (with_reducible repeat (first | refine blk_drewN ?_ _ | refine blk_drew ?_ | refine blk_alloc ?_ _)); exact BK139.out)) : gb139 ≠ gb140)); have n6_ := Aside0.mk ((by rw [hg]; exact Nat.ne_of_gt (blk_lt (g := gb139) (o := .cells #[.int .i64 a0_0, .int .i64 a0_1, .int .i64 a0_2, .int .i64 a0_3, .int .i64 a0_4, .slice A0_5 l0_5.length c0_5] 25 (0, 0)) (by (with_reducible repeat (first | refine blk_drewN ?_ _ | refine blk_drew ?_ | refine blk_alloc ?_ _)); exact BK139.out)) : gb140 ≠ gb139)); clear BK139; clear HB; have BK139 := n0_; have HB := n1_; have BK140 := n2_; have GW140 := n3_; have GE140 := n4_; have NB139_140 := n5_; have NB140_139 := n6_; clear n0_ n1_ n2_ n3_ n4_ n5_ n6_; clear hb hbox hg; have hnb11 := NB139_140.out; have hnc11 := NB140_139.out; have hcz12_0 : w10.cell? ⟨gb139, 0, none⟩ = some (.int .i64 a0_0) := (blk_cell BK139.out 0).trans rfl; have hcz12_1 : w10.cell? ⟨gb139, 1, none⟩ = some (.int .i64 a0_1) := (blk_cell BK139.out 1).trans rfl; have hcz12_2 : w10.cell? ⟨gb139, 2, none⟩ = some (.int .i64 a0_2) := (blk_cell BK139.out 2).trans rfl; have hcz12_3 : w10.cell? ⟨gb139, 3, none⟩ = some (.int .i64 a0_3) := (blk_cell BK139.out 3).trans rfl; have hcz12_4 : w10.cell? ⟨gb139, 4, none⟩ = some (.int .i64 a0_4) := (blk_cell BK139.out 4).trans rfl; have hcz12_5 : w10.cell? ⟨gb139, 5, none⟩ = some (.slice A0_5 l0_5.length c0_5) := (blk_cell BK139.out 5).trans rfl; have hfz12_0 := blk_frozen BK139.out 0; have hfz12_1 := blk_frozen BK139.out 1; have hfz12_2 := blk_frozen BK139.out 2; have hfz12_3 := blk_frozen BK139.out 3; have hfz12_4 := blk_frozen BK139.out 4; have hfz12_5 := blk_frozen BK139.out 5; have hcz13_0 : w10.cell? ⟨gb140, 0, none⟩ = some (.int .i64 a1_0) := (blk_cell BK140.out 0).trans rfl; have hcz13_1 : w10.cell? ⟨gb140, 1, none⟩ = some (.int .i64 a1_1) := (blk_cell BK140.out 1).trans rfl; have hcz13_2 : w10.cell? ⟨gb140, 2, none⟩ = some (.int .i64 a1_2) := (blk_cell BK140.out 2).trans rfl; have hcz13_3 : w10.cell? ⟨gb140, 3, none⟩ = some (.int .i64 a1_3) := (blk_cell BK140.out 3).trans rfl; have hcz13_4 : w10.cell? ⟨gb140, 4, none⟩ = some (.int .i64 a1_4) := (blk_cell BK140.out 4).trans rfl; have hcz13_5 : w10.cell? ⟨gb140, 5, none⟩ = some (.slice A1_5 l1_5.length c1_5) := (blk_cell BK140.out 5).trans rfl; have hfz13_0 := blk_frozen BK140.out 0; have hfz13_1 := blk_frozen BK140.out 1; have hfz13_2 := blk_frozen BK140.out 2; have hfz13_3 := blk_frozen BK140.out 3; have hfz13_4 := blk_frozen BK140.out 4; have hfz13_5 := blk_frozen BK140.out 5) | (go_at_call 29; (with_reducible refine (odysseylaw17_texts.calls k _ _ l0_5 _ _ l1_5 t141 _ ?side1 ?side2 ?side3 ?side4 A8.out).mono ?_); (case side1 => repeat (first | exact (Kd.C_below HR0_5.out HB.out) | (with_reducible refine Kd.C_alloc ?_ _) | (with_reducible refine Kd.C_drewN ?_ _) | (with_reducible refine Kd.C_drew ?_))); (case side2 => exact HC0_5.out); (case side3 => repeat (first | exact (Kd.C_below HR1_5.out HB.out) | (with_reducible refine Kd.C_alloc ?_ _) | (with_reducible refine Kd.C_drewN ?_ _) | (with_reducible refine Kd.C_drew ?_))); (case side4 => exact HC1_5.out); rintro e w' ⟨rfl, ⟨nd, rfl⟩⟩))
            go_ret
            exact ⟨by first | rfl | (simp [errW_none, errW_some] <;> rfl) | (simp [*, errW_none, errW_some] <;> rfl), by repeat (first | (with_reducible first | exact HB.out | apply below_alloc | apply pw_below_drewN | apply below_drew1 | refine below_set ?_ GE139.out | refine below_set ?_ GE140.out) | exact HB.out)⟩
          · rw [if_neg c7] at H
            have c7b0 : (a0_4 == a1_4) = false := beq_eq_false_iff_ne.mpr c7
            have c7b1 : (a0_4 != a1_4) = true := bne_iff_ne.mpr c7
            obtain rfl := Option.some.inj H
            go_enter Try.func10, Try.ntmps10
            go_wp2_with (first | ((with_reducible refine gate_dst (N := 2) rfl ?_); refine box_event ?hg (N := 2) ?hd (cs := #[.int .i64 a0_0, .int .i64 a0_1, .int .i64 a0_2, .int .i64 a0_3, .int .i64 a0_4, .slice A0_5 l0_5.length c0_5]) (t := 25) ?hr ?_; (case hd => rfl); (case hg => rfl); (case hr => first | (go_simp; done) | (go_simp; rfl)); intro gb139 hg w14 hbox hb; have n0_ := Aside0.mk (below_step (by repeat (first | (with_reducible first | exact HB.out | apply below_alloc | apply pw_below_drewN | apply below_drew1) | exact HB.out)) hb); have n1_ := Aside0.mk (hbox); have n2_ := Aside0.mk ((by rw [hg]; exact (below_size (by repeat (first | (with_reducible first | exact HB.out | apply below_alloc | apply pw_below_drewN | apply below_drew1) | exact HB.out))) : w.heap.size ≤ gb139)); have n3_ := Aside0.mk ((by rw [hg]; exact (below_size (by repeat (first | (with_reducible first | exact HB.out | apply below_alloc | apply pw_below_drewN | apply below_drew1) | exact HB.out))) : w.heap.size ≤ gb139)); clear HB; have HB := n0_; have BK139 := n1_; have GW139 := n2_; have GE139 := n3_; clear n0_ n1_ n2_ n3_; clear hb hbox hg) | ((with_reducible refine gate_dst (N := 3) rfl ?_); refine box_event ?hg (N := 3) ?hd (cs := #[.int .i64 a1_0, .int .i64 a1_1, .int .i64 a1_2, .int .i64 a1_3, .int .i64 a1_4, .slice A1_5 l1_5.length c1_5]) (t := 25) ?hr ?_; (case hd => rfl); (case hg => rfl); (case hr => first | (go_simp; done) | (go_simp; rfl)); intro gb140 hg w15 hbox hb; have n0_ := Aside0.mk (blk_below (g := gb139) (o := .cells #[.int .i64 a0_0, .int .i64 a0_1, .int .i64 a0_2, .int .i64 a0_3, .int .i64 a0_4, .slice A0_5 l0_5.length c0_5] 25 (0, 0)) (by (with_reducible repeat (first | refine blk_drewN ?_ _ | refine blk_drew ?_ | refine blk_alloc ?_ _)); exact BK139.out) hb); have n1_ := Aside0.mk (below_step (by repeat (first | (with_reducible first | exact HB.out | apply below_alloc | apply pw_below_drewN | apply below_drew1 | refine below_set ?_ GE139.out) | exact HB.out)) hb); have n2_ := Aside0.mk (hbox); have n3_ := Aside0.mk ((by rw [hg]; exact (below_size (by repeat (first | (with_reducible first | exact HB.out | apply below_alloc | apply pw_below_drewN | apply below_drew1 | refine below_set ?_ GE139.out) | exact HB.out))) : w.heap.size ≤ gb140)); have n4_ := Aside0.mk ((by rw [hg]; exact (below_size (by repeat (first | (with_reducible first | exact HB.out | apply below_alloc | apply pw_below_drewN | apply below_drew1 | refine below_set ?_ GE139.out) | exact HB.out))) : w.heap.size ≤ gb140)); have n5_ := Aside0.mk ((by rw [hg]; exact Nat.ne_of_lt (blk_lt (g := gb139) (o := .cells #[.int .i64 a0_0, .int .i64 a0_1, .int .i64 a0_2, .int .i64 a0_3, .int .i64 a0_4, .slice A0_5 l0_5.length c0_5] 25 (0, 0)) (by (with_reducible repeat (first | refine blk_drewN ?_ _ | refine blk_drew ?_ | refine blk_alloc ?_ _)); exact BK139.out)) : gb139 ≠ gb140)); have n6_ := Aside0.mk ((by rw [hg]; exact Nat.ne_of_gt (blk_lt (g := gb139) (o := .cells #[.int .i64 a0_0, .int .i64 a0_1, .int .i64 a0_2, .int .i64 a0_3, .int .i64 a0_4, .slice A0_5 l0_5.length c0_5] 25 (0, 0)) (by (with_reducible repeat (first | refine blk_drewN ?_ _ | refine blk_drew ?_ | refine blk_alloc ?_ _)); exact BK139.out)) : gb140 ≠ gb139)); clear BK139; clear HB; have BK139 := n0_; have HB := n1_; have BK140 := n2_; have GW140 := n3_; have GE140 := n4_; have NB139_140 := n5_; have NB140_139 := n6_; clear n0_ n1_ n2_ n3_ n4_ n5_ n6_; clear hb hbox hg; have hnb16 := NB139_140.out; have hnc16 := NB140_139.out; have hcz17_0 : w15.cell? ⟨gb139, 0, none⟩ = some (.int .i64 a0_0) := (blk_cell BK139.out 0).trans rfl; have hcz17_1 : w15.cell? ⟨gb139, 1, none⟩ = some (.int .i64 a0_1) := (blk_cell BK139.out 1).trans rfl; have hcz17_2 : w15.cell? ⟨gb139, 2, none⟩ = some (.int .i64 a0_2) := (blk_cell BK139.out 2).trans rfl; have hcz17_3 : w15.cell? ⟨gb139, 3, none⟩ = some (.int .i64 a0_3) := (blk_cell BK139.out 3).trans rfl; have hcz17_4 : w15.cell? ⟨gb139, 4, none⟩ = some (.int .i64 a0_4) := (blk_cell BK139.out 4).trans rfl; have hcz17_5 : w15.cell? ⟨gb139, 5, none⟩ = some (.slice A0_5 l0_5.length c0_5) := (blk_cell BK139.out 5).trans rfl; have hfz17_0 := blk_frozen BK139.out 0; have hfz17_1 := blk_frozen BK139.out 1; have hfz17_2 := blk_frozen BK139.out 2; have hfz17_3 := blk_frozen BK139.out 3; have hfz17_4 := blk_frozen BK139.out 4; have hfz17_5 := blk_frozen BK139.out 5; have hcz18_0 : w15.cell? ⟨gb140, 0, none⟩ = some (.int .i64 a1_0) := (blk_cell BK140.out 0).trans rfl; have hcz18_1 : w15.cell? ⟨gb140, 1, none⟩ = some (.int .i64 a1_1) := (blk_cell BK140.out 1).trans rfl; have hcz18_2 : w15.cell? ⟨gb140, 2, none⟩ = some (.int .i64 a1_2) := (blk_cell BK140.out 2).trans rfl; have hcz18_3 : w15.cell? ⟨gb140, 3, none⟩ = some (.int .i64 a1_3) := (blk_cell BK140.out 3).trans rfl; have hcz18_4 : w15.cell? ⟨gb140, 4, none⟩ = some (.int .i64 a1_4) := (blk_cell BK140.out 4).trans rfl; have hcz18_5 : w15.cell? ⟨gb140, 5, none⟩ = some (.slice A1_5 l1_5.length c1_5) := (blk_cell BK140.out 5).trans rfl; have hfz18_0 := blk_frozen BK140.out 0; have hfz18_1 := blk_frozen BK140.out 1; have hfz18_2 := blk_frozen BK140.out 2; have hfz18_3 := blk_frozen BK140.out 3; have hfz18_4 := blk_frozen BK140.out 4; have hfz18_5 := blk_frozen BK140.out 5))
            go_ret
            exact ⟨by first | rfl | (simp [errW_none, errW_some] <;> rfl) | (simp [*, errW_none, errW_some] <;> rfl), by repeat (first | (with_reducible first | exact HB.out | apply below_alloc | apply pw_below_drewN | apply below_drew1 | refine below_set ?_ GE139.out | refine below_set ?_ GE140.out) | exact HB.out)⟩
        · rw [if_neg c6] at H
          have c6b0 : (a0_3 == a1_3) = false := beq_eq_false_iff_ne.mpr c6
          have c6b1 : (a0_3 != a1_3) = true := bne_iff_ne.mpr c6
          obtain rfl := Option.some.inj H
          go_enter Try.func10, Try.ntmps10
          go_wp2_with (first | ((with_reducible refine gate_dst (N := 2) rfl ?_); refine box_event ?hg (N := 2) ?hd (cs := #[.int .i64 a0_0, .int .i64 a0_1, .int .i64 a0_2, .int .i64 a0_3, .int .i64 a0_4, .slice A0_5 l0_5.length c0_5]) (t := 25) ?hr ?_; (case hd => rfl); (case hg => rfl); (case hr => first | (go_simp; done) | (go_simp; rfl)); intro gb139 hg w19 hbox hb; have n0_ := Aside0.mk (below_step (by repeat (first | (with_reducible first | exact HB.out | apply below_alloc | apply pw_below_drewN | apply below_drew1) | exact HB.out)) hb); have n1_ := Aside0.mk (hbox); have n2_ := Aside0.mk ((by rw [hg]; exact (below_size (by repeat (first | (with_reducible first | exact HB.out | apply below_alloc | apply pw_below_drewN | apply below_drew1) | exact HB.out))) : w.heap.size ≤ gb139)); have n3_ := Aside0.mk ((by rw [hg]; exact (below_size (by repeat (first | (with_reducible first | exact HB.out | apply below_alloc | apply pw_below_drewN | apply below_drew1) | exact HB.out))) : w.heap.size ≤ gb139)); clear HB; have HB := n0_; have BK139 := n1_; have GW139 := n2_; have GE139 := n3_; clear n0_ n1_ n2_ n3_; clear hb hbox hg) | ((with_reducible refine gate_dst (N := 3) rfl ?_); refine box_event ?hg (N := 3) ?hd (cs := #[.int .i64 a1_0, .int .i64 a1_1, .int .i64 a1_2, .int .i64 a1_3, .int .i64 a1_4, .slice A1_5 l1_5.length c1_5]) (t := 25) ?hr ?_; (case hd => rfl); (case hg => rfl); (case hr => first | (go_simp; done) | (go_simp; rfl)); intro gb140 hg w20 hbox hb; have n0_ := Aside0.mk (blk_below (g := gb139) (o := .cells #[.int .i64 a0_0, .int .i64 a0_1, .int .i64 a0_2, .int .i64 a0_3, .int .i64 a0_4, .slice A0_5 l0_5.length c0_5] 25 (0, 0)) (by (with_reducible repeat (first | refine blk_drewN ?_ _ | refine blk_drew ?_ | refine blk_alloc ?_ _)); exact BK139.out) hb); have n1_ := Aside0.mk (below_step (by repeat (first | (with_reducible first | exact HB.out | apply below_alloc | apply pw_below_drewN | apply below_drew1 | refine below_set ?_ GE139.out) | exact HB.out)) hb); have n2_ := Aside0.mk (hbox); have n3_ := Aside0.mk ((by rw [hg]; exact (below_size (by repeat (first | (with_reducible first | exact HB.out | apply below_alloc | apply pw_below_drewN | apply below_drew1 | refine below_set ?_ GE139.out) | exact HB.out))) : w.heap.size ≤ gb140)); have n4_ := Aside0.mk ((by rw [hg]; exact (below_size (by repeat (first | (with_reducible first | exact HB.out | apply below_alloc | apply pw_below_drewN | apply below_drew1 | refine below_set ?_ GE139.out) | exact HB.out))) : w.heap.size ≤ gb140)); have n5_ := Aside0.mk ((by rw [hg]; exact Nat.ne_of_lt (blk_lt (g := gb139) (o := .cells #[.int .i64 a0_0, .int .i64 a0_1, .int .i64 a0_2, .int .i64 a0_3, .int .i64 a0_4, .slice A0_5 l0_5.length c0_5] 25 (0, 0)) (by (with_reducible repeat (first | refine blk_drewN ?_ _ | refine blk_drew ?_ | refine blk_alloc ?_ _)); exact BK139.out)) : gb139 ≠ gb140)); have n6_ := Aside0.mk ((by rw [hg]; exact Nat.ne_of_gt (blk_lt (g := gb139) (o := .cells #[.int .i64 a0_0, .int .i64 a0_1, .int .i64 a0_2, .int .i64 a0_3, .int .i64 a0_4, .slice A0_5 l0_5.length c0_5] 25 (0, 0)) (by (with_reducible repeat (first | refine blk_drewN ?_ _ | refine blk_drew ?_ | refine blk_alloc ?_ _)); exact BK139.out)) : gb140 ≠ gb139)); clear BK139; clear HB; have BK139 := n0_; have HB := n1_; have BK140 := n2_; have GW140 := n3_; have GE140 := n4_; have NB139_140 := n5_; have NB140_139 := n6_; clear n0_ n1_ n2_ n3_ n4_ n5_ n6_; clear hb hbox hg; have hnb21 := NB139_140.out; have hnc21 := NB140_139.out; have hcz22_0 : w20.cell? ⟨gb139, 0, none⟩ = some (.int .i64 a0_0) := (blk_cell BK139.out 0).trans rfl; have hcz22_1 : w20.cell? ⟨gb139, 1, none⟩ = some (.int .i64 a0_1) := (blk_cell BK139.out 1).trans rfl; have hcz22_2 : w20.cell? ⟨gb139, 2, none⟩ = some (.int .i64 a0_2) := (blk_cell BK139.out 2).trans rfl; have hcz22_3 : w20.cell? ⟨gb139, 3, none⟩ = some (.int .i64 a0_3) := (blk_cell BK139.out 3).trans rfl; have hcz22_4 : w20.cell? ⟨gb139, 4, none⟩ = some (.int .i64 a0_4) := (blk_cell BK139.out 4).trans rfl; have hcz22_5 : w20.cell? ⟨gb139, 5, none⟩ = some (.slice A0_5 l0_5.length c0_5) := (blk_cell BK139.out 5).trans rfl; have hfz22_0 := blk_frozen BK139.out 0; have hfz22_1 := blk_frozen BK139.out 1; have hfz22_2 := blk_frozen BK139.out 2; have hfz22_3 := blk_frozen BK139.out 3; have hfz22_4 := blk_frozen BK139.out 4; have hfz22_5 := blk_frozen BK139.out 5; have hcz23_0 : w20.cell? ⟨gb140, 0, none⟩ = some (.int .i64 a1_0) := (blk_cell BK140.out 0).trans rfl; have hcz23_1 : w20.cell? ⟨gb140, 1, none⟩ = some (.int .i64 a1_1) := (blk_cell BK140.out 1).trans rfl; have hcz23_2 : w20.cell? ⟨gb140, 2, none⟩ = some (.int .i64 a1_2) := (blk_cell BK140.out 2).trans rfl; have hcz23_3 : w20.cell? ⟨gb140, 3, none⟩ = some (.int .i64 a1_3) := (blk_cell BK140.out 3).trans rfl; have hcz23_4 : w20.cell? ⟨gb140, 4, none⟩ = some (.int .i64 a1_4) := (blk_cell BK140.out 4).trans rfl; have hcz23_5 : w20.cell? ⟨gb140, 5, none⟩ = some (.slice A1_5 l1_5.length c1_5) := (blk_cell BK140.out 5).trans rfl; have hfz23_0 := blk_frozen BK140.out 0; have hfz23_1 := blk_frozen BK140.out 1; have hfz23_2 := blk_frozen BK140.out 2; have hfz23_3 := blk_frozen BK140.out 3; have hfz23_4 := blk_frozen BK140.out 4; have hfz23_5 := blk_frozen BK140.out 5))
          go_ret
          exact ⟨by first | rfl | (simp [errW_none, errW_some] <;> rfl) | (simp [*, errW_none, errW_some] <;> rfl), by repeat (first | (with_reducible first | exact HB.out | apply below_alloc | apply pw_below_drewN | apply below_drew1 | refine below_set ?_ GE139.out | refine below_set ?_ GE140.out) | exact HB.out)⟩
      · rw [if_neg c5] at H
        have c5b0 : (a0_2 == a1_2) = false := beq_eq_false_iff_ne.mpr c5
        have c5b1 : (a0_2 != a1_2) = true := bne_iff_ne.mpr c5
        obtain rfl := Option.some.inj H
        go_enter Try.func10, Try.ntmps10
        go_wp2_with (first | ((with_reducible refine gate_dst (N := 2) rfl ?_); refine box_event ?hg (N := 2) ?hd (cs := #[.int .i64 a0_0, .int .i64 a0_1, .int .i64 a0_2, .int .i64 a0_3, .int .i64 a0_4, .slice A0_5 l0_5.length c0_5]) (t := 25) ?hr ?_; (case hd => rfl); (case hg => rfl); (case hr => first | (go_simp; done) | (go_simp; rfl)); intro gb139 hg w24 hbox hb; have n0_ := Aside0.mk (below_step (by repeat (first | (with_reducible first | exact HB.out | apply below_alloc | apply pw_below_drewN | apply below_drew1) | exact HB.out)) hb); have n1_ := Aside0.mk (hbox); have n2_ := Aside0.mk ((by rw [hg]; exact (below_size (by repeat (first | (with_reducible first | exact HB.out | apply below_alloc | apply pw_below_drewN | apply below_drew1) | exact HB.out))) : w.heap.size ≤ gb139)); have n3_ := Aside0.mk ((by rw [hg]; exact (below_size (by repeat (first | (with_reducible first | exact HB.out | apply below_alloc | apply pw_below_drewN | apply below_drew1) | exact HB.out))) : w.heap.size ≤ gb139)); clear HB; have HB := n0_; have BK139 := n1_; have GW139 := n2_; have GE139 := n3_; clear n0_ n1_ n2_ n3_; clear hb hbox hg) | ((with_reducible refine gate_dst (N := 3) rfl ?_); refine box_event ?hg (N := 3) ?hd (cs := #[.int .i64 a1_0, .int .i64 a1_1, .int .i64 a1_2, .int .i64 a1_3, .int .i64 a1_4, .slice A1_5 l1_5.length c1_5]) (t := 25) ?hr ?_; (case hd => rfl); (case hg => rfl); (case hr => first | (go_simp; done) | (go_simp; rfl)); intro gb140 hg w25 hbox hb; have n0_ := Aside0.mk (blk_below (g := gb139) (o := .cells #[.int .i64 a0_0, .int .i64 a0_1, .int .i64 a0_2, .int .i64 a0_3, .int .i64 a0_4, .slice A0_5 l0_5.length c0_5] 25 (0, 0)) (by (with_reducible repeat (first | refine blk_drewN ?_ _ | refine blk_drew ?_ | refine blk_alloc ?_ _)); exact BK139.out) hb); have n1_ := Aside0.mk (below_step (by repeat (first | (with_reducible first | exact HB.out | apply below_alloc | apply pw_below_drewN | apply below_drew1 | refine below_set ?_ GE139.out) | exact HB.out)) hb); have n2_ := Aside0.mk (hbox); have n3_ := Aside0.mk ((by rw [hg]; exact (below_size (by repeat (first | (with_reducible first | exact HB.out | apply below_alloc | apply pw_below_drewN | apply below_drew1 | refine below_set ?_ GE139.out) | exact HB.out))) : w.heap.size ≤ gb140)); have n4_ := Aside0.mk ((by rw [hg]; exact (below_size (by repeat (first | (with_reducible first | exact HB.out | apply below_alloc | apply pw_below_drewN | apply below_drew1 | refine below_set ?_ GE139.out) | exact HB.out))) : w.heap.size ≤ gb140)); have n5_ := Aside0.mk ((by rw [hg]; exact Nat.ne_of_lt (blk_lt (g := gb139) (o := .cells #[.int .i64 a0_0, .int .i64 a0_1, .int .i64 a0_2, .int .i64 a0_3, .int .i64 a0_4, .slice A0_5 l0_5.length c0_5] 25 (0, 0)) (by (with_reducible repeat (first | refine blk_drewN ?_ _ | refine blk_drew ?_ | refine blk_alloc ?_ _)); exact BK139.out)) : gb139 ≠ gb140)); have n6_ := Aside0.mk ((by rw [hg]; exact Nat.ne_of_gt (blk_lt (g := gb139) (o := .cells #[.int .i64 a0_0, .int .i64 a0_1, .int .i64 a0_2, .int .i64 a0_3, .int .i64 a0_4, .slice A0_5 l0_5.length c0_5] 25 (0, 0)) (by (with_reducible repeat (first | refine blk_drewN ?_ _ | refine blk_drew ?_ | refine blk_alloc ?_ _)); exact BK139.out)) : gb140 ≠ gb139)); clear BK139; clear HB; have BK139 := n0_; have HB := n1_; have BK140 := n2_; have GW140 := n3_; have GE140 := n4_; have NB139_140 := n5_; have NB140_139 := n6_; clear n0_ n1_ n2_ n3_ n4_ n5_ n6_; clear hb hbox hg; have hnb26 := NB139_140.out; have hnc26 := NB140_139.out; have hcz27_0 : w25.cell? ⟨gb139, 0, none⟩ = some (.int .i64 a0_0) := (blk_cell BK139.out 0).trans rfl; have hcz27_1 : w25.cell? ⟨gb139, 1, none⟩ = some (.int .i64 a0_1) := (blk_cell BK139.out 1).trans rfl; have hcz27_2 : w25.cell? ⟨gb139, 2, none⟩ = some (.int .i64 a0_2) := (blk_cell BK139.out 2).trans rfl; have hcz27_3 : w25.cell? ⟨gb139, 3, none⟩ = some (.int .i64 a0_3) := (blk_cell BK139.out 3).trans rfl; have hcz27_4 : w25.cell? ⟨gb139, 4, none⟩ = some (.int .i64 a0_4) := (blk_cell BK139.out 4).trans rfl; have hcz27_5 : w25.cell? ⟨gb139, 5, none⟩ = some (.slice A0_5 l0_5.length c0_5) := (blk_cell BK139.out 5).trans rfl; have hfz27_0 := blk_frozen BK139.out 0; have hfz27_1 := blk_frozen BK139.out 1; have hfz27_2 := blk_frozen BK139.out 2; have hfz27_3 := blk_frozen BK139.out 3; have hfz27_4 := blk_frozen BK139.out 4; have hfz27_5 := blk_frozen BK139.out 5; have hcz28_0 : w25.cell? ⟨gb140, 0, none⟩ = some (.int .i64 a1_0) := (blk_cell BK140.out 0).trans rfl; have hcz28_1 : w25.cell? ⟨gb140, 1, none⟩ = some (.int .i64 a1_1) := (blk_cell BK140.out 1).trans rfl; have hcz28_2 : w25.cell? ⟨gb140, 2, none⟩ = some (.int .i64 a1_2) := (blk_cell BK140.out 2).trans rfl; have hcz28_3 : w25.cell? ⟨gb140, 3, none⟩ = some (.int .i64 a1_3) := (blk_cell BK140.out 3).trans rfl; have hcz28_4 : w25.cell? ⟨gb140, 4, none⟩ = some (.int .i64 a1_4) := (blk_cell BK140.out 4).trans rfl; have hcz28_5 : w25.cell? ⟨gb140, 5, none⟩ = some (.slice A1_5 l1_5.length c1_5) := (blk_cell BK140.out 5).trans rfl; have hfz28_0 := blk_frozen BK140.out 0; have hfz28_1 := blk_frozen BK140.out 1; have hfz28_2 := blk_frozen BK140.out 2; have hfz28_3 := blk_frozen BK140.out 3; have hfz28_4 := blk_frozen BK140.out 4; have hfz28_5 := blk_frozen BK140.out 5))
        go_ret
        exact ⟨by first | rfl | (simp [errW_none, errW_some] <;> rfl) | (simp [*, errW_none, errW_some] <;> rfl), by repeat (first | (with_reducible first | exact HB.out | apply below_alloc | apply pw_below_drewN | apply below_drew1 | refine below_set ?_ GE139.out | refine below_set ?_ GE140.out) | exact HB.out)⟩
    · rw [if_neg c4] at H
      have c4b0 : (a0_1 == a1_1) = false := beq_eq_false_iff_ne.mpr c4
      have c4b1 : (a0_1 != a1_1) = true := bne_iff_ne.mpr c4
      obtain rfl := Option.some.inj H
      go_enter Try.func10, Try.ntmps10
      go_wp2_with (first | ((with_reducible refine gate_dst (N := 2) rfl ?_); refine box_event ?hg (N := 2) ?hd (cs := #[.int .i64 a0_0, .int .i64 a0_1, .int .i64 a0_2, .int .i64 a0_3, .int .i64 a0_4, .slice A0_5 l0_5.length c0_5]) (t := 25) ?hr ?_; (case hd => rfl); (case hg => rfl); (case hr => first | (go_simp; done) | (go_simp; rfl)); intro gb139 hg w29 hbox hb; have n0_ := Aside0.mk (below_step (by repeat (first | (with_reducible first | exact HB.out | apply below_alloc | apply pw_below_drewN | apply below_drew1) | exact HB.out)) hb); have n1_ := Aside0.mk (hbox); have n2_ := Aside0.mk ((by rw [hg]; exact (below_size (by repeat (first | (with_reducible first | exact HB.out | apply below_alloc | apply pw_below_drewN | apply below_drew1) | exact HB.out))) : w.heap.size ≤ gb139)); have n3_ := Aside0.mk ((by rw [hg]; exact (below_size (by repeat (first | (with_reducible first | exact HB.out | apply below_alloc | apply pw_below_drewN | apply below_drew1) | exact HB.out))) : w.heap.size ≤ gb139)); clear HB; have HB := n0_; have BK139 := n1_; have GW139 := n2_; have GE139 := n3_; clear n0_ n1_ n2_ n3_; clear hb hbox hg) | ((with_reducible refine gate_dst (N := 3) rfl ?_); refine box_event ?hg (N := 3) ?hd (cs := #[.int .i64 a1_0, .int .i64 a1_1, .int .i64 a1_2, .int .i64 a1_3, .int .i64 a1_4, .slice A1_5 l1_5.length c1_5]) (t := 25) ?hr ?_; (case hd => rfl); (case hg => rfl); (case hr => first | (go_simp; done) | (go_simp; rfl)); intro gb140 hg w30 hbox hb; have n0_ := Aside0.mk (blk_below (g := gb139) (o := .cells #[.int .i64 a0_0, .int .i64 a0_1, .int .i64 a0_2, .int .i64 a0_3, .int .i64 a0_4, .slice A0_5 l0_5.length c0_5] 25 (0, 0)) (by (with_reducible repeat (first | refine blk_drewN ?_ _ | refine blk_drew ?_ | refine blk_alloc ?_ _)); exact BK139.out) hb); have n1_ := Aside0.mk (below_step (by repeat (first | (with_reducible first | exact HB.out | apply below_alloc | apply pw_below_drewN | apply below_drew1 | refine below_set ?_ GE139.out) | exact HB.out)) hb); have n2_ := Aside0.mk (hbox); have n3_ := Aside0.mk ((by rw [hg]; exact (below_size (by repeat (first | (with_reducible first | exact HB.out | apply below_alloc | apply pw_below_drewN | apply below_drew1 | refine below_set ?_ GE139.out) | exact HB.out))) : w.heap.size ≤ gb140)); have n4_ := Aside0.mk ((by rw [hg]; exact (below_size (by repeat (first | (with_reducible first | exact HB.out | apply below_alloc | apply pw_below_drewN | apply below_drew1 | refine below_set ?_ GE139.out) | exact HB.out))) : w.heap.size ≤ gb140)); have n5_ := Aside0.mk ((by rw [hg]; exact Nat.ne_of_lt (blk_lt (g := gb139) (o := .cells #[.int .i64 a0_0, .int .i64 a0_1, .int .i64 a0_2, .int .i64 a0_3, .int .i64 a0_4, .slice A0_5 l0_5.length c0_5] 25 (0, 0)) (by (with_reducible repeat (first | refine blk_drewN ?_ _ | refine blk_drew ?_ | refine blk_alloc ?_ _)); exact BK139.out)) : gb139 ≠ gb140)); have n6_ := Aside0.mk ((by rw [hg]; exact Nat.ne_of_gt (blk_lt (g := gb139) (o := .cells #[.int .i64 a0_0, .int .i64 a0_1, .int .i64 a0_2, .int .i64 a0_3, .int .i64 a0_4, .slice A0_5 l0_5.length c0_5] 25 (0, 0)) (by (with_reducible repeat (first | refine blk_drewN ?_ _ | refine blk_drew ?_ | refine blk_alloc ?_ _)); exact BK139.out)) : gb140 ≠ gb139)); clear BK139; clear HB; have BK139 := n0_; have HB := n1_; have BK140 := n2_; have GW140 := n3_; have GE140 := n4_; have NB139_140 := n5_; have NB140_139 := n6_; clear n0_ n1_ n2_ n3_ n4_ n5_ n6_; clear hb hbox hg; have hnb31 := NB139_140.out; have hnc31 := NB140_139.out; have hcz32_0 : w30.cell? ⟨gb139, 0, none⟩ = some (.int .i64 a0_0) := (blk_cell BK139.out 0).trans rfl; have hcz32_1 : w30.cell? ⟨gb139, 1, none⟩ = some (.int .i64 a0_1) := (blk_cell BK139.out 1).trans rfl; have hcz32_2 : w30.cell? ⟨gb139, 2, none⟩ = some (.int .i64 a0_2) := (blk_cell BK139.out 2).trans rfl; have hcz32_3 : w30.cell? ⟨gb139, 3, none⟩ = some (.int .i64 a0_3) := (blk_cell BK139.out 3).trans rfl; have hcz32_4 : w30.cell? ⟨gb139, 4, none⟩ = some (.int .i64 a0_4) := (blk_cell BK139.out 4).trans rfl; have hcz32_5 : w30.cell? ⟨gb139, 5, none⟩ = some (.slice A0_5 l0_5.length c0_5) := (blk_cell BK139.out 5).trans rfl; have hfz32_0 := blk_frozen BK139.out 0; have hfz32_1 := blk_frozen BK139.out 1; have hfz32_2 := blk_frozen BK139.out 2; have hfz32_3 := blk_frozen BK139.out 3; have hfz32_4 := blk_frozen BK139.out 4; have hfz32_5 := blk_frozen BK139.out 5; have hcz33_0 : w30.cell? ⟨gb140, 0, none⟩ = some (.int .i64 a1_0) := (blk_cell BK140.out 0).trans rfl; have hcz33_1 : w30.cell? ⟨gb140, 1, none⟩ = some (.int .i64 a1_1) := (blk_cell BK140.out 1).trans rfl; have hcz33_2 : w30.cell? ⟨gb140, 2, none⟩ = some (.int .i64 a1_2) := (blk_cell BK140.out 2).trans rfl; have hcz33_3 : w30.cell? ⟨gb140, 3, none⟩ = some (.int .i64 a1_3) := (blk_cell BK140.out 3).trans rfl; have hcz33_4 : w30.cell? ⟨gb140, 4, none⟩ = some (.int .i64 a1_4) := (blk_cell BK140.out 4).trans rfl; have hcz33_5 : w30.cell? ⟨gb140, 5, none⟩ = some (.slice A1_5 l1_5.length c1_5) := (blk_cell BK140.out 5).trans rfl; have hfz33_0 := blk_frozen BK140.out 0; have hfz33_1 := blk_frozen BK140.out 1; have hfz33_2 := blk_frozen BK140.out 2; have hfz33_3 := blk_frozen BK140.out 3; have hfz33_4 := blk_frozen BK140.out 4; have hfz33_5 := blk_frozen BK140.out 5))
      go_ret
      exact ⟨by first | rfl | (simp [errW_none, errW_some] <;> rfl) | (simp [*, errW_none, errW_some] <;> rfl), by repeat (first | (with_reducible first | exact HB.out | apply below_alloc | apply pw_below_drewN | apply below_drew1 | refine below_set ?_ GE139.out | refine below_set ?_ GE140.out) | exact HB.out)⟩
  · rw [if_neg c3] at H
    have c3b0 : (a0_0 == a1_0) = false := beq_eq_false_iff_ne.mpr c3
    have c3b1 : (a0_0 != a1_0) = true := bne_iff_ne.mpr c3
    obtain rfl := Option.some.inj H
    go_enter Try.func10, Try.ntmps10
    go_wp2_with (first | ((with_reducible refine gate_dst (N := 2) rfl ?_); refine box_event ?hg (N := 2) ?hd (cs := #[.int .i64 a0_0, .int .i64 a0_1, .int .i64 a0_2, .int .i64 a0_3, .int .i64 a0_4, .slice A0_5 l0_5.length c0_5]) (t := 25) ?hr ?_; (case hd => rfl); (case hg => rfl); (case hr => first | (go_simp; done) | (go_simp; rfl)); intro gb139 hg w34 hbox hb; have n0_ := Aside0.mk (below_step (by repeat (first | (with_reducible first | exact HB.out | apply below_alloc | apply pw_below_drewN | apply below_drew1) | exact HB.out)) hb); have n1_ := Aside0.mk (hbox); have n2_ := Aside0.mk ((by rw [hg]; exact (below_size (by repeat (first | (with_reducible first | exact HB.out | apply below_alloc | apply pw_below_drewN | apply below_drew1) | exact HB.out))) : w.heap.size ≤ gb139)); have n3_ := Aside0.mk ((by rw [hg]; exact (below_size (by repeat (first | (with_reducible first | exact HB.out | apply below_alloc | apply pw_below_drewN | apply below_drew1) | exact HB.out))) : w.heap.size ≤ gb139)); clear HB; have HB := n0_; have BK139 := n1_; have GW139 := n2_; have GE139 := n3_; clear n0_ n1_ n2_ n3_; clear hb hbox hg) | ((with_reducible refine gate_dst (N := 3) rfl ?_); refine box_event ?hg (N := 3) ?hd (cs := #[.int .i64 a1_0, .int .i64 a1_1, .int .i64 a1_2, .int .i64 a1_3, .int .i64 a1_4, .slice A1_5 l1_5.length c1_5]) (t := 25) ?hr ?_; (case hd => rfl); (case hg => rfl); (case hr => first | (go_simp; done) | (go_simp; rfl)); intro gb140 hg w35 hbox hb; have n0_ := Aside0.mk (blk_below (g := gb139) (o := .cells #[.int .i64 a0_0, .int .i64 a0_1, .int .i64 a0_2, .int .i64 a0_3, .int .i64 a0_4, .slice A0_5 l0_5.length c0_5] 25 (0, 0)) (by (with_reducible repeat (first | refine blk_drewN ?_ _ | refine blk_drew ?_ | refine blk_alloc ?_ _)); exact BK139.out) hb); have n1_ := Aside0.mk (below_step (by repeat (first | (with_reducible first | exact HB.out | apply below_alloc | apply pw_below_drewN | apply below_drew1 | refine below_set ?_ GE139.out) | exact HB.out)) hb); have n2_ := Aside0.mk (hbox); have n3_ := Aside0.mk ((by rw [hg]; exact (below_size (by repeat (first | (with_reducible first | exact HB.out | apply below_alloc | apply pw_below_drewN | apply below_drew1 | refine below_set ?_ GE139.out) | exact HB.out))) : w.heap.size ≤ gb140)); have n4_ := Aside0.mk ((by rw [hg]; exact (below_size (by repeat (first | (with_reducible first | exact HB.out | apply below_alloc | apply pw_below_drewN | apply below_drew1 | refine below_set ?_ GE139.out) | exact HB.out))) : w.heap.size ≤ gb140)); have n5_ := Aside0.mk ((by rw [hg]; exact Nat.ne_of_lt (blk_lt (g := gb139) (o := .cells #[.int .i64 a0_0, .int .i64 a0_1, .int .i64 a0_2, .int .i64 a0_3, .int .i64 a0_4, .slice A0_5 l0_5.length c0_5] 25 (0, 0)) (by (with_reducible repeat (first | refine blk_drewN ?_ _ | refine blk_drew ?_ | refine blk_alloc ?_ _)); exact BK139.out)) : gb139 ≠ gb140)); have n6_ := Aside0.mk ((by rw [hg]; exact Nat.ne_of_gt (blk_lt (g := gb139) (o := .cells #[.int .i64 a0_0, .int .i64 a0_1, .int .i64 a0_2, .int .i64 a0_3, .int .i64 a0_4, .slice A0_5 l0_5.length c0_5] 25 (0, 0)) (by (with_reducible repeat (first | refine blk_drewN ?_ _ | refine blk_drew ?_ | refine blk_alloc ?_ _)); exact BK139.out)) : gb140 ≠ gb139)); clear BK139; clear HB; have BK139 := n0_; have HB := n1_; have BK140 := n2_; have GW140 := n3_; have GE140 := n4_; have NB139_140 := n5_; have NB140_139 := n6_; clear n0_ n1_ n2_ n3_ n4_ n5_ n6_; clear hb hbox hg; have hnb36 := NB139_140.out; have hnc36 := NB140_139.out; have hcz37_0 : w35.cell? ⟨gb139, 0, none⟩ = some (.int .i64 a0_0) := (blk_cell BK139.out 0).trans rfl; have hcz37_1 : w35.cell? ⟨gb139, 1, none⟩ = some (.int .i64 a0_1) := (blk_cell BK139.out 1).trans rfl; have hcz37_2 : w35.cell? ⟨gb139, 2, none⟩ = some (.int .i64 a0_2) := (blk_cell BK139.out 2).trans rfl; have hcz37_3 : w35.cell? ⟨gb139, 3, none⟩ = some (.int .i64 a0_3) := (blk_cell BK139.out 3).trans rfl; have hcz37_4 : w35.cell? ⟨gb139, 4, none⟩ = some (.int .i64 a0_4) := (blk_cell BK139.out 4).trans rfl; have hcz37_5 : w35.cell? ⟨gb139, 5, none⟩ = some (.slice A0_5 l0_5.length c0_5) := (blk_cell BK139.out 5).trans rfl; have hfz37_0 := blk_frozen BK139.out 0; have hfz37_1 := blk_frozen BK139.out 1; have hfz37_2 := blk_frozen BK139.out 2; have hfz37_3 := blk_frozen BK139.out 3; have hfz37_4 := blk_frozen BK139.out 4; have hfz37_5 := blk_frozen BK139.out 5; have hcz38_0 : w35.cell? ⟨gb140, 0, none⟩ = some (.int .i64 a1_0) := (blk_cell BK140.out 0).trans rfl; have hcz38_1 : w35.cell? ⟨gb140, 1, none⟩ = some (.int .i64 a1_1) := (blk_cell BK140.out 1).trans rfl; have hcz38_2 : w35.cell? ⟨gb140, 2, none⟩ = some (.int .i64 a1_2) := (blk_cell BK140.out 2).trans rfl; have hcz38_3 : w35.cell? ⟨gb140, 3, none⟩ = some (.int .i64 a1_3) := (blk_cell BK140.out 3).trans rfl; have hcz38_4 : w35.cell? ⟨gb140, 4, none⟩ = some (.int .i64 a1_4) := (blk_cell BK140.out 4).trans rfl; have hcz38_5 : w35.cell? ⟨gb140, 5, none⟩ = some (.slice A1_5 l1_5.length c1_5) := (blk_cell BK140.out 5).trans rfl; have hfz38_0 := blk_frozen BK140.out 0; have hfz38_1 := blk_frozen BK140.out 1; have hfz38_2 := blk_frozen BK140.out 2; have hfz38_3 := blk_frozen BK140.out 3; have hfz38_4 := blk_frozen BK140.out 4; have hfz38_5 := blk_frozen BK140.out 5))
    go_ret
    exact ⟨by first | rfl | (simp [errW_none, errW_some] <;> rfl) | (simp [*, errW_none, errW_some] <;> rfl), by repeat (first | (with_reducible first | exact HB.out | apply below_alloc | apply pw_below_drewN | apply below_drew1 | refine below_set ?_ GE139.out | refine below_set ?_ GE140.out) | exact HB.out)⟩

/-! ### odysseylaw17_SameEvent: function 18 -/
def odysseylaw17_SameEvent.f (k : Nat) (a0_0 : Int) (a0_1 : Int) (a0_2 : Int) (l0_3 : List ByteArray) (a1_0 : Int) (a1_1 : Int) (a1_2 : Int) (l1_3 : List ByteArray) : Option (Bool) := if a0_0 = a1_0 then (if a0_1 = a1_1 then (if a0_2 = a1_2 then ((odysseylaw17_texts.f k l0_3 l1_3).bind fun t144 => (some t144)) else (some false)) else (some false)) else (some false)
theorem odysseylaw17_SameEvent.mono : ∀ a0 a1 a2 a3 a4 a5 a6 a7 k, LeO (odysseylaw17_SameEvent.f k a0 a1 a2 a3 a4 a5 a6 a7) (odysseylaw17_SameEvent.f (k + 1) a0 a1 a2 a3 a4 a5 a6 a7) := by
  intro a0 a1 a2 a3 a4 a5 a6 a7 k
  unfold odysseylaw17_SameEvent.f
  repeat' first
      | (with_reducible exact odysseylaw17_texts.mono _ _ _)
      | (with_reducible exact LeO.refl _)
      | (with_reducible exact LeO.none _)
      | (with_reducible refine LeO.ite ?_ ?_)
      | (with_reducible refine LeO.bind ?_ (fun _ => ?_))
      | exact odysseylaw17_texts.mono _ _ _
      | exact LeO.none _
      | refine LeO.ite ?_ ?_
      | refine LeO.bind ?_ (fun _ => ?_)
set_option maxHeartbeats 8000000 in
set_option maxRecDepth 100000 in
theorem odysseylaw17_SameEvent.calls (k : Nat) (a0_0 : Int) (a0_1 : Int) (a0_2 : Int) (A0_3 : Option Addr) (c0_3 : Nat) (l0_3 : List ByteArray) (a1_0 : Int) (a1_1 : Int) (a1_2 : Int) (A1_3 : Option Addr) (c1_3 : Nat) (l1_3 : List ByteArray) (r : Bool) (w : World) (hr0_3 : Kd.C Kd.string w A0_3 l0_3.length l0_3) (hc0_3 : l0_3.length ≤ c0_3) (hr1_3 : Kd.C Kd.string w A1_3 l1_3.length l1_3) (hc1_3 : l1_3.length ≤ c1_3) (h : odysseylaw17_SameEvent.f k a0_0 a0_1 a0_2 l0_3 a1_0 a1_1 a1_2 l1_3 = some r) :
    Calls Try.prog 18 #[.agg #[.int .i64 a0_0, .int .i64 a0_1, .int .i64 a0_2, .slice A0_3 l0_3.length c0_3], .agg #[.int .i64 a1_0, .int .i64 a1_1, .int .i64 a1_2, .slice A1_3 l1_3.length c1_3]] w fun e w' => e = .returned (.bool r) ∧ Below w.heap.size w w' := by
  have hu29 := Try.underlying29
  have HR0_3 := Aside0.mk hr0_3
  have HC0_3 := Aside0.mk hc0_3
  clear hr0_3 hc0_3
  have HR1_3 := Aside0.mk hr1_3
  have HC1_3 := Aside0.mk hc1_3
  clear hr1_3 hc1_3
  have HB := Aside0.mk (Below.refl w.heap.size w)
  have H : (if a0_0 = a1_0 then (if a0_1 = a1_1 then (if a0_2 = a1_2 then ((odysseylaw17_texts.f k l0_3 l1_3).bind fun t144 => (some t144)) else (some false)) else (some false)) else (some false)) = some r := h
  clear h
  by_cases c3 : a0_0 = a1_0
  · rw [if_pos c3] at H
    have c3b0 : (a0_0 == a1_0) = true := beq_iff_eq.mpr c3
    have c3b1 : (a0_0 != a1_0) = false := bne_eq_false_iff_eq.mpr c3
    clear c3
    by_cases c4 : a0_1 = a1_1
    · rw [if_pos c4] at H
      have c4b0 : (a0_1 == a1_1) = true := beq_iff_eq.mpr c4
      have c4b1 : (a0_1 != a1_1) = false := bne_eq_false_iff_eq.mpr c4
      clear c4
      by_cases c5 : a0_2 = a1_2
      · rw [if_pos c5] at H
        have c5b0 : (a0_2 == a1_2) = true := beq_iff_eq.mpr c5
        have c5b1 : (a0_2 != a1_2) = false := bne_eq_false_iff_eq.mpr c5
        clear c5
        replace H := Option.bind_eq_some_iff.mp H
        obtain ⟨t144, A60, H⟩ := H
        replace H : (some t144) = some r := H
        have A6 := Aside0.mk A60
        clear A60
        obtain rfl := Option.some.inj H
        go_enter Try.func18, Try.ntmps18
        go_wp2_with (first | ((with_reducible refine gate_dst (N := 2) rfl ?_); refine box_event ?hg (N := 2) ?hd (cs := #[.int .i64 a0_0, .int .i64 a0_1, .int .i64 a0_2, .slice A0_3 l0_3.length c0_3]) (t := 29) ?hr ?_; (case hd => rfl); (case hg => rfl); (case hr => first | (go_simp; done) | (go_simp; rfl)); intro gb142 hg w7 hbox hb; have n0_ := Aside0.mk (below_step (by repeat (first | (with_reducible first | exact HB.out | apply below_alloc | apply pw_below_drewN | apply below_drew1) | exact HB.out)) hb); have n1_ := Aside0.mk (hbox); have n2_ := Aside0.mk ((by rw [hg]; exact (below_size (by repeat (first | (with_reducible first | exact HB.out | apply below_alloc | apply pw_below_drewN | apply below_drew1) | exact HB.out))) : w.heap.size ≤ gb142)); have n3_ := Aside0.mk ((by rw [hg]; exact (below_size (by repeat (first | (with_reducible first | exact HB.out | apply below_alloc | apply pw_below_drewN | apply below_drew1) | exact HB.out))) : w.heap.size ≤ gb142)); clear HB; have HB := n0_; have BK142 := n1_; have GW142 := n2_; have GE142 := n3_; clear n0_ n1_ n2_ n3_; clear hb hbox hg) | ((with_reducible refine gate_dst (N := 3) rfl ?_); refine box_event ?hg (N := 3) ?hd (cs := #[.int .i64 a1_0, .int .i64 a1_1, .int .i64 a1_2, .slice A1_3 l1_3.length c1_3]) (t := 29) ?hr ?_; (case hd => rfl); (case hg => rfl); (case hr => first | (go_simp; done) | (go_simp; rfl)); intro gb143 hg w8 hbox hb; have n0_ := Aside0.mk (blk_below (g := gb142) (o := .cells #[.int .i64 a0_0, .int .i64 a0_1, .int .i64 a0_2, .slice A0_3 l0_3.length c0_3] 29 (0, 0)) (by (with_reducible repeat (first | refine blk_drewN ?_ _ | refine blk_drew ?_ | refine blk_alloc ?_ _)); exact BK142.out) hb); have n1_ := Aside0.mk (below_step (by repeat (first | (with_reducible first | exact HB.out | apply below_alloc | apply pw_below_drewN | apply below_drew1 | refine below_set ?_ GE142.out) | exact HB.out)) hb); have n2_ := Aside0.mk (hbox); have n3_ := Aside0.mk ((by rw [hg]; exact (below_size (by repeat (first | (with_reducible first | exact HB.out | apply below_alloc | apply pw_below_drewN | apply below_drew1 | refine below_set ?_ GE142.out) | exact HB.out))) : w.heap.size ≤ gb143)); have n4_ := Aside0.mk ((by rw [hg]; exact (below_size (by repeat (first | (with_reducible first | exact HB.out | apply below_alloc | apply pw_below_drewN | apply below_drew1 | refine below_set ?_ GE142.out) | exact HB.out))) : w.heap.size ≤ gb143)); have n5_ := Aside0.mk ((by rw [hg]; exact Nat.ne_of_lt (blk_lt (g := gb142) (o := .cells #[.int .i64 a0_0, .int .i64 a0_1, .int .i64 a0_2, .slice A0_3 l0_3.length c0_3] 29 (0, 0)) (by (with_reducible repeat (first | refine blk_drewN ?_ _ | refine blk_drew ?_ | refine blk_alloc ?_ _)); exact BK142.out)) : gb142 ≠ gb143)); have n6_ := Aside0.mk ((by rw [hg]; exact Nat.ne_of_gt (blk_lt (g := gb142) (o := .cells #[.int .i64 a0_0, .int .i64 a0_1, .int .i64 a0_2, .slice A0_3 l0_3.length c0_3] 29 (0, 0)) (by (with_reducible repeat (first | refine blk_drewN ?_ _ | refine blk_drew ?_ | refine blk_alloc ?_ _)); exact BK142.out)) : gb143 ≠ gb142)); clear BK142; clear HB; have BK142 := n0_; have HB := n1_; have BK143 := n2_; have GW143 := n3_; have GE143 := n4_; have NB142_143 := n5_; have NB143_142 := n6_; clear n0_ n1_ n2_ n3_ n4_ n5_ n6_; clear hb hbox hg; have hnb9 := NB142_143.out; have hnc9 := NB143_142.out; have hcz10_0 : w8.cell? ⟨gb142, 0, none⟩ = some (.int .i64 a0_0) := (blk_cell BK142.out 0).trans rfl; have hcz10_1 : w8.cell? ⟨gb142, 1, none⟩ = some (.int .i64 a0_1) := (blk_cell BK142.out 1).trans rfl; have hcz10_2 : w8.cell? ⟨gb142, 2, none⟩ = some (.int .i64 a0_2) := (blk_cell BK142.out 2).trans rfl; have hcz10_3 : w8.cell? ⟨gb142, 3, none⟩ = some (.slice A0_3 l0_3.length c0_3) := (blk_cell BK142.out 3).trans rfl; have hfz10_0 := blk_frozen BK142.out 0; have hfz10_1 := blk_frozen BK142.out 1; have hfz10_2 := blk_frozen BK142.out 2; have hfz10_3 := blk_frozen BK142.out 3; have hcz11_0 : w8.cell? ⟨gb143, 0, none⟩ = some (.int .i64 a1_0) := (blk_cell BK143.out 0).trans rfl; have hcz11_1 : w8.cell? ⟨gb143, 1, none⟩ = some (.int .i64 a1_1) := (blk_cell BK143.out 1).trans rfl; have hcz11_2 : w8.cell? ⟨gb143, 2, none⟩ = some (.int .i64 a1_2) := (blk_cell BK143.out 2).trans rfl; have hcz11_3 : w8.cell? ⟨gb143, 3, none⟩ = some (.slice A1_3 l1_3.length c1_3) := (blk_cell BK143.out 3).trans rfl; have hfz11_0 := blk_frozen BK143.out 0; have hfz11_1 := blk_frozen BK143.out 1; have hfz11_2 := blk_frozen BK143.out 2; have hfz11_3 := blk_frozen BK143.out 3) | (go_at_call 29; (with_reducible refine (odysseylaw17_texts.calls k _ _ l0_3 _ _ l1_3 t144 _ ?side1 ?side2 ?side3 ?side4 A6.out).mono ?_); (case side1 => repeat (first | exact (Kd.C_below HR0_3.out HB.out) | (with_reducible refine Kd.C_alloc ?_ _) | (with_reducible refine Kd.C_drewN ?_ _) | (with_reducible refine Kd.C_drew ?_))); (case side2 => exact HC0_3.out); (case side3 => repeat (first | exact (Kd.C_below HR1_3.out HB.out) | (with_reducible refine Kd.C_alloc ?_ _) | (with_reducible refine Kd.C_drewN ?_ _) | (with_reducible refine Kd.C_drew ?_))); (case side4 => exact HC1_3.out); rintro e w' ⟨rfl, ⟨nd, rfl⟩⟩))
        go_ret
        exact ⟨by first | rfl | (simp [errW_none, errW_some] <;> rfl) | (simp [*, errW_none, errW_some] <;> rfl), by repeat (first | (with_reducible first | exact HB.out | apply below_alloc | apply pw_below_drewN | apply below_drew1 | refine below_set ?_ GE142.out | refine below_set ?_ GE143.out) | exact HB.out)⟩
      · rw [if_neg c5] at H
        have c5b0 : (a0_2 == a1_2) = false := beq_eq_false_iff_ne.mpr c5
        have c5b1 : (a0_2 != a1_2) = true := bne_iff_ne.mpr c5
        obtain rfl := Option.some.inj H
        go_enter Try.func18, Try.ntmps18
        go_wp2_with (first | ((with_reducible refine gate_dst (N := 2) rfl ?_); refine box_event ?hg (N := 2) ?hd (cs := #[.int .i64 a0_0, .int .i64 a0_1, .int .i64 a0_2, .slice A0_3 l0_3.length c0_3]) (t := 29) ?hr ?_; (case hd => rfl); (case hg => rfl); (case hr => first | (go_simp; done) | (go_simp; rfl)); intro gb142 hg w12 hbox hb; have n0_ := Aside0.mk (below_step (by repeat (first | (with_reducible first | exact HB.out | apply below_alloc | apply pw_below_drewN | apply below_drew1) | exact HB.out)) hb); have n1_ := Aside0.mk (hbox); have n2_ := Aside0.mk ((by rw [hg]; exact (below_size (by repeat (first | (with_reducible first | exact HB.out | apply below_alloc | apply pw_below_drewN | apply below_drew1) | exact HB.out))) : w.heap.size ≤ gb142)); have n3_ := Aside0.mk ((by rw [hg]; exact (below_size (by repeat (first | (with_reducible first | exact HB.out | apply below_alloc | apply pw_below_drewN | apply below_drew1) | exact HB.out))) : w.heap.size ≤ gb142)); clear HB; have HB := n0_; have BK142 := n1_; have GW142 := n2_; have GE142 := n3_; clear n0_ n1_ n2_ n3_; clear hb hbox hg) | ((with_reducible refine gate_dst (N := 3) rfl ?_); refine box_event ?hg (N := 3) ?hd (cs := #[.int .i64 a1_0, .int .i64 a1_1, .int .i64 a1_2, .slice A1_3 l1_3.length c1_3]) (t := 29) ?hr ?_; (case hd => rfl); (case hg => rfl); (case hr => first | (go_simp; done) | (go_simp; rfl)); intro gb143 hg w13 hbox hb; have n0_ := Aside0.mk (blk_below (g := gb142) (o := .cells #[.int .i64 a0_0, .int .i64 a0_1, .int .i64 a0_2, .slice A0_3 l0_3.length c0_3] 29 (0, 0)) (by (with_reducible repeat (first | refine blk_drewN ?_ _ | refine blk_drew ?_ | refine blk_alloc ?_ _)); exact BK142.out) hb); have n1_ := Aside0.mk (below_step (by repeat (first | (with_reducible first | exact HB.out | apply below_alloc | apply pw_below_drewN | apply below_drew1 | refine below_set ?_ GE142.out) | exact HB.out)) hb); have n2_ := Aside0.mk (hbox); have n3_ := Aside0.mk ((by rw [hg]; exact (below_size (by repeat (first | (with_reducible first | exact HB.out | apply below_alloc | apply pw_below_drewN | apply below_drew1 | refine below_set ?_ GE142.out) | exact HB.out))) : w.heap.size ≤ gb143)); have n4_ := Aside0.mk ((by rw [hg]; exact (below_size (by repeat (first | (with_reducible first | exact HB.out | apply below_alloc | apply pw_below_drewN | apply below_drew1 | refine below_set ?_ GE142.out) | exact HB.out))) : w.heap.size ≤ gb143)); have n5_ := Aside0.mk ((by rw [hg]; exact Nat.ne_of_lt (blk_lt (g := gb142) (o := .cells #[.int .i64 a0_0, .int .i64 a0_1, .int .i64 a0_2, .slice A0_3 l0_3.length c0_3] 29 (0, 0)) (by (with_reducible repeat (first | refine blk_drewN ?_ _ | refine blk_drew ?_ | refine blk_alloc ?_ _)); exact BK142.out)) : gb142 ≠ gb143)); have n6_ := Aside0.mk ((by rw [hg]; exact Nat.ne_of_gt (blk_lt (g := gb142) (o := .cells #[.int .i64 a0_0, .int .i64 a0_1, .int .i64 a0_2, .slice A0_3 l0_3.length c0_3] 29 (0, 0)) (by (with_reducible repeat (first | refine blk_drewN ?_ _ | refine blk_drew ?_ | refine blk_alloc ?_ _)); exact BK142.out)) : gb143 ≠ gb142)); clear BK142; clear HB; have BK142 := n0_; have HB := n1_; have BK143 := n2_; have GW143 := n3_; have GE143 := n4_; have NB142_143 := n5_; have NB143_142 := n6_; clear n0_ n1_ n2_ n3_ n4_ n5_ n6_; clear hb hbox hg; have hnb14 := NB142_143.out; have hnc14 := NB143_142.out; have hcz15_0 : w13.cell? ⟨gb142, 0, none⟩ = some (.int .i64 a0_0) := (blk_cell BK142.out 0).trans rfl; have hcz15_1 : w13.cell? ⟨gb142, 1, none⟩ = some (.int .i64 a0_1) := (blk_cell BK142.out 1).trans rfl; have hcz15_2 : w13.cell? ⟨gb142, 2, none⟩ = some (.int .i64 a0_2) := (blk_cell BK142.out 2).trans rfl; have hcz15_3 : w13.cell? ⟨gb142, 3, none⟩ = some (.slice A0_3 l0_3.length c0_3) := (blk_cell BK142.out 3).trans rfl; have hfz15_0 := blk_frozen BK142.out 0; have hfz15_1 := blk_frozen BK142.out 1; have hfz15_2 := blk_frozen BK142.out 2; have hfz15_3 := blk_frozen BK142.out 3; have hcz16_0 : w13.cell? ⟨gb143, 0, none⟩ = some (.int .i64 a1_0) := (blk_cell BK143.out 0).trans rfl; have hcz16_1 : w13.cell? ⟨gb143, 1, none⟩ = some (.int .i64 a1_1) := (blk_cell BK143.out 1).trans rfl; have hcz16_2 : w13.cell? ⟨gb143, 2, none⟩ = some (.int .i64 a1_2) := (blk_cell BK143.out 2).trans rfl; have hcz16_3 : w13.cell? ⟨gb143, 3, none⟩ = some (.slice A1_3 l1_3.length c1_3) := (blk_cell BK143.out 3).trans rfl; have hfz16_0 := blk_frozen BK143.out 0; have hfz16_1 := blk_frozen BK143.out 1; have hfz16_2 := blk_frozen BK143.out 2; have hfz16_3 := blk_frozen BK143.out 3))
        go_ret
        exact ⟨by first | rfl | (simp [errW_none, errW_some] <;> rfl) | (simp [*, errW_none, errW_some] <;> rfl), by repeat (first | (with_reducible first | exact HB.out | apply below_alloc | apply pw_below_drewN | apply below_drew1 | refine below_set ?_ GE142.out | refine below_set ?_ GE143.out) | exact HB.out)⟩
    · rw [if_neg c4] at H
      have c4b0 : (a0_1 == a1_1) = false := beq_eq_false_iff_ne.mpr c4
      have c4b1 : (a0_1 != a1_1) = true := bne_iff_ne.mpr c4
      obtain rfl := Option.some.inj H
      go_enter Try.func18, Try.ntmps18
      go_wp2_with (first | ((with_reducible refine gate_dst (N := 2) rfl ?_); refine box_event ?hg (N := 2) ?hd (cs := #[.int .i64 a0_0, .int .i64 a0_1, .int .i64 a0_2, .slice A0_3 l0_3.length c0_3]) (t := 29) ?hr ?_; (case hd => rfl); (case hg => rfl); (case hr => first | (go_simp; done) | (go_simp; rfl)); intro gb142 hg w17 hbox hb; have n0_ := Aside0.mk (below_step (by repeat (first | (with_reducible first | exact HB.out | apply below_alloc | apply pw_below_drewN | apply below_drew1) | exact HB.out)) hb); have n1_ := Aside0.mk (hbox); have n2_ := Aside0.mk ((by rw [hg]; exact (below_size (by repeat (first | (with_reducible first | exact HB.out | apply below_alloc | apply pw_below_drewN | apply below_drew1) | exact HB.out))) : w.heap.size ≤ gb142)); have n3_ := Aside0.mk ((by rw [hg]; exact (below_size (by repeat (first | (with_reducible first | exact HB.out | apply below_alloc | apply pw_below_drewN | apply below_drew1) | exact HB.out))) : w.heap.size ≤ gb142)); clear HB; have HB := n0_; have BK142 := n1_; have GW142 := n2_; have GE142 := n3_; clear n0_ n1_ n2_ n3_; clear hb hbox hg) | ((with_reducible refine gate_dst (N := 3) rfl ?_); refine box_event ?hg (N := 3) ?hd (cs := #[.int .i64 a1_0, .int .i64 a1_1, .int .i64 a1_2, .slice A1_3 l1_3.length c1_3]) (t := 29) ?hr ?_; (case hd => rfl); (case hg => rfl); (case hr => first | (go_simp; done) | (go_simp; rfl)); intro gb143 hg w18 hbox hb; have n0_ := Aside0.mk (blk_below (g := gb142) (o := .cells #[.int .i64 a0_0, .int .i64 a0_1, .int .i64 a0_2, .slice A0_3 l0_3.length c0_3] 29 (0, 0)) (by (with_reducible repeat (first | refine blk_drewN ?_ _ | refine blk_drew ?_ | refine blk_alloc ?_ _)); exact BK142.out) hb); have n1_ := Aside0.mk (below_step (by repeat (first | (with_reducible first | exact HB.out | apply below_alloc | apply pw_below_drewN | apply below_drew1 | refine below_set ?_ GE142.out) | exact HB.out)) hb); have n2_ := Aside0.mk (hbox); have n3_ := Aside0.mk ((by rw [hg]; exact (below_size (by repeat (first | (with_reducible first | exact HB.out | apply below_alloc | apply pw_below_drewN | apply below_drew1 | refine below_set ?_ GE142.out) | exact HB.out))) : w.heap.size ≤ gb143)); have n4_ := Aside0.mk ((by rw [hg]; exact (below_size (by repeat (first | (with_reducible first | exact HB.out | apply below_alloc | apply pw_below_drewN | apply below_drew1 | refine below_set ?_ GE142.out) | exact HB.out))) : w.heap.size ≤ gb143)); have n5_ := Aside0.mk ((by rw [hg]; exact Nat.ne_of_lt (blk_lt (g := gb142) (o := .cells #[.int .i64 a0_0, .int .i64 a0_1, .int .i64 a0_2, .slice A0_3 l0_3.length c0_3] 29 (0, 0)) (by (with_reducible repeat (first | refine blk_drewN ?_ _ | refine blk_drew ?_ | refine blk_alloc ?_ _)); exact BK142.out)) : gb142 ≠ gb143)); have n6_ := Aside0.mk ((by rw [hg]; exact Nat.ne_of_gt (blk_lt (g := gb142) (o := .cells #[.int .i64 a0_0, .int .i64 a0_1, .int .i64 a0_2, .slice A0_3 l0_3.length c0_3] 29 (0, 0)) (by (with_reducible repeat (first | refine blk_drewN ?_ _ | refine blk_drew ?_ | refine blk_alloc ?_ _)); exact BK142.out)) : gb143 ≠ gb142)); clear BK142; clear HB; have BK142 := n0_; have HB := n1_; have BK143 := n2_; have GW143 := n3_; have GE143 := n4_; have NB142_143 := n5_; have NB143_142 := n6_; clear n0_ n1_ n2_ n3_ n4_ n5_ n6_; clear hb hbox hg; have hnb19 := NB142_143.out; have hnc19 := NB143_142.out; have hcz20_0 : w18.cell? ⟨gb142, 0, none⟩ = some (.int .i64 a0_0) := (blk_cell BK142.out 0).trans rfl; have hcz20_1 : w18.cell? ⟨gb142, 1, none⟩ = some (.int .i64 a0_1) := (blk_cell BK142.out 1).trans rfl; have hcz20_2 : w18.cell? ⟨gb142, 2, none⟩ = some (.int .i64 a0_2) := (blk_cell BK142.out 2).trans rfl; have hcz20_3 : w18.cell? ⟨gb142, 3, none⟩ = some (.slice A0_3 l0_3.length c0_3) := (blk_cell BK142.out 3).trans rfl; have hfz20_0 := blk_frozen BK142.out 0; have hfz20_1 := blk_frozen BK142.out 1; have hfz20_2 := blk_frozen BK142.out 2; have hfz20_3 := blk_frozen BK142.out 3; have hcz21_0 : w18.cell? ⟨gb143, 0, none⟩ = some (.int .i64 a1_0) := (blk_cell BK143.out 0).trans rfl; have hcz21_1 : w18.cell? ⟨gb143, 1, none⟩ = some (.int .i64 a1_1) := (blk_cell BK143.out 1).trans rfl; have hcz21_2 : w18.cell? ⟨gb143, 2, none⟩ = some (.int .i64 a1_2) := (blk_cell BK143.out 2).trans rfl; have hcz21_3 : w18.cell? ⟨gb143, 3, none⟩ = some (.slice A1_3 l1_3.length c1_3) := (blk_cell BK143.out 3).trans rfl; have hfz21_0 := blk_frozen BK143.out 0; have hfz21_1 := blk_frozen BK143.out 1; have hfz21_2 := blk_frozen BK143.out 2; have hfz21_3 := blk_frozen BK143.out 3))
      go_ret
      exact ⟨by first | rfl | (simp [errW_none, errW_some] <;> rfl) | (simp [*, errW_none, errW_some] <;> rfl), by repeat (first | (with_reducible first | exact HB.out | apply below_alloc | apply pw_below_drewN | apply below_drew1 | refine below_set ?_ GE142.out | refine below_set ?_ GE143.out) | exact HB.out)⟩
  · rw [if_neg c3] at H
    have c3b0 : (a0_0 == a1_0) = false := beq_eq_false_iff_ne.mpr c3
    have c3b1 : (a0_0 != a1_0) = true := bne_iff_ne.mpr c3
    obtain rfl := Option.some.inj H
    go_enter Try.func18, Try.ntmps18
    go_wp2_with (first | ((with_reducible refine gate_dst (N := 2) rfl ?_); refine box_event ?hg (N := 2) ?hd (cs := #[.int .i64 a0_0, .int .i64 a0_1, .int .i64 a0_2, .slice A0_3 l0_3.length c0_3]) (t := 29) ?hr ?_; (case hd => rfl); (case hg => rfl); (case hr => first | (go_simp; done) | (go_simp; rfl)); intro gb142 hg w22 hbox hb; have n0_ := Aside0.mk (below_step (by repeat (first | (with_reducible first | exact HB.out | apply below_alloc | apply pw_below_drewN | apply below_drew1) | exact HB.out)) hb); have n1_ := Aside0.mk (hbox); have n2_ := Aside0.mk ((by rw [hg]; exact (below_size (by repeat (first | (with_reducible first | exact HB.out | apply below_alloc | apply pw_below_drewN | apply below_drew1) | exact HB.out))) : w.heap.size ≤ gb142)); have n3_ := Aside0.mk ((by rw [hg]; exact (below_size (by repeat (first | (with_reducible first | exact HB.out | apply below_alloc | apply pw_below_drewN | apply below_drew1) | exact HB.out))) : w.heap.size ≤ gb142)); clear HB; have HB := n0_; have BK142 := n1_; have GW142 := n2_; have GE142 := n3_; clear n0_ n1_ n2_ n3_; clear hb hbox hg) | ((with_reducible refine gate_dst (N := 3) rfl ?_); refine box_event ?hg (N := 3) ?hd (cs := #[.int .i64 a1_0, .int .i64 a1_1, .int .i64 a1_2, .slice A1_3 l1_3.length c1_3]) (t := 29) ?hr ?_; (case hd => rfl); (case hg => rfl); (case hr => first | (go_simp; done) | (go_simp; rfl)); intro gb143 hg w23 hbox hb; have n0_ := Aside0.mk (blk_below (g := gb142) (o := .cells #[.int .i64 a0_0, .int .i64 a0_1, .int .i64 a0_2, .slice A0_3 l0_3.length c0_3] 29 (0, 0)) (by (with_reducible repeat (first | refine blk_drewN ?_ _ | refine blk_drew ?_ | refine blk_alloc ?_ _)); exact BK142.out) hb); have n1_ := Aside0.mk (below_step (by repeat (first | (with_reducible first | exact HB.out | apply below_alloc | apply pw_below_drewN | apply below_drew1 | refine below_set ?_ GE142.out) | exact HB.out)) hb); have n2_ := Aside0.mk (hbox); have n3_ := Aside0.mk ((by rw [hg]; exact (below_size (by repeat (first | (with_reducible first | exact HB.out | apply below_alloc | apply pw_below_drewN | apply below_drew1 | refine below_set ?_ GE142.out) | exact HB.out))) : w.heap.size ≤ gb143)); have n4_ := Aside0.mk ((by rw [hg]; exact (below_size (by repeat (first | (with_reducible first | exact HB.out | apply below_alloc | apply pw_below_drewN | apply below_drew1 | refine below_set ?_ GE142.out) | exact HB.out))) : w.heap.size ≤ gb143)); have n5_ := Aside0.mk ((by rw [hg]; exact Nat.ne_of_lt (blk_lt (g := gb142) (o := .cells #[.int .i64 a0_0, .int .i64 a0_1, .int .i64 a0_2, .slice A0_3 l0_3.length c0_3] 29 (0, 0)) (by (with_reducible repeat (first | refine blk_drewN ?_ _ | refine blk_drew ?_ | refine blk_alloc ?_ _)); exact BK142.out)) : gb142 ≠ gb143)); have n6_ := Aside0.mk ((by rw [hg]; exact Nat.ne_of_gt (blk_lt (g := gb142) (o := .cells #[.int .i64 a0_0, .int .i64 a0_1, .int .i64 a0_2, .slice A0_3 l0_3.length c0_3] 29 (0, 0)) (by (with_reducible repeat (first | refine blk_drewN ?_ _ | refine blk_drew ?_ | refine blk_alloc ?_ _)); exact BK142.out)) : gb143 ≠ gb142)); clear BK142; clear HB; have BK142 := n0_; have HB := n1_; have BK143 := n2_; have GW143 := n3_; have GE143 := n4_; have NB142_143 := n5_; have NB143_142 := n6_; clear n0_ n1_ n2_ n3_ n4_ n5_ n6_; clear hb hbox hg; have hnb24 := NB142_143.out; have hnc24 := NB143_142.out; have hcz25_0 : w23.cell? ⟨gb142, 0, none⟩ = some (.int .i64 a0_0) := (blk_cell BK142.out 0).trans rfl; have hcz25_1 : w23.cell? ⟨gb142, 1, none⟩ = some (.int .i64 a0_1) := (blk_cell BK142.out 1).trans rfl; have hcz25_2 : w23.cell? ⟨gb142, 2, none⟩ = some (.int .i64 a0_2) := (blk_cell BK142.out 2).trans rfl; have hcz25_3 : w23.cell? ⟨gb142, 3, none⟩ = some (.slice A0_3 l0_3.length c0_3) := (blk_cell BK142.out 3).trans rfl; have hfz25_0 := blk_frozen BK142.out 0; have hfz25_1 := blk_frozen BK142.out 1; have hfz25_2 := blk_frozen BK142.out 2; have hfz25_3 := blk_frozen BK142.out 3; have hcz26_0 : w23.cell? ⟨gb143, 0, none⟩ = some (.int .i64 a1_0) := (blk_cell BK143.out 0).trans rfl; have hcz26_1 : w23.cell? ⟨gb143, 1, none⟩ = some (.int .i64 a1_1) := (blk_cell BK143.out 1).trans rfl; have hcz26_2 : w23.cell? ⟨gb143, 2, none⟩ = some (.int .i64 a1_2) := (blk_cell BK143.out 2).trans rfl; have hcz26_3 : w23.cell? ⟨gb143, 3, none⟩ = some (.slice A1_3 l1_3.length c1_3) := (blk_cell BK143.out 3).trans rfl; have hfz26_0 := blk_frozen BK143.out 0; have hfz26_1 := blk_frozen BK143.out 1; have hfz26_2 := blk_frozen BK143.out 2; have hfz26_3 := blk_frozen BK143.out 3))
    go_ret
    exact ⟨by first | rfl | (simp [errW_none, errW_some] <;> rfl) | (simp [*, errW_none, errW_some] <;> rfl), by repeat (first | (with_reducible first | exact HB.out | apply below_alloc | apply pw_below_drewN | apply below_drew1 | refine below_set ?_ GE142.out | refine below_set ?_ GE143.out) | exact HB.out)⟩

end Go.Proofs.Ytahonoeiamjgbaa.G

-- Written by gprint.py, a program of this session, over the kit's print of the loaded functions. Not trusted: Lean checks it.
namespace Go.Proofs.Ytahonoeiamjgbaa.G
open Go.RowKit Go.Proofs.YtahonoeiamjgbaaW.PrintWords Go.Proofs.YtahonoeiamjgbaaW.PrintLast Go.Proofs.YtahonoeiamjgbaaW.PrintMore Go.Proofs.Ytahonoeiamjgbaa.Joins
attribute [local go_sem] max2_int min2_int max_two min_two max_three min_three max_four min_four   -- for this text's walks alone
set_option linter.unusedVariables false
set_option linter.unusedSimpArgs false

end Go.Proofs.Ytahonoeiamjgbaa.G

/- What the printed functions of chapter 3 answer, in the plain words of XPk and XPkTake (the texts of gprint.py). -/
namespace Go.Proofs.Ytahonoeiamjgbaa.PkH
open Go.RowKit Go.IntWalk Go.Proofs.Ytahonoeiamjgbaa.G Go.Proofs.YtahonoeiamjgbaaW.PrintWords Go.Proofs.YtahonoeiamjgbaaW.PrintLast Go.Proofs.YtahonoeiamjgbaaW.PrintMore

theorem pack_num (a : Int) (k : Nat) (hk : 20 ≤ k) : pack_Num.f k a = some (Pk.num a) := by
  unfold pack_Num.f
  obtain ⟨k, rfl⟩ : ∃ m, k = m + 1 := ⟨k - 1, by omega⟩
  by_cases h0 : a < 0
  · rw [if_pos h0, Pk.num_bad (Or.inl h0), pack_Num.j0, if_pos rfl]
  · rw [if_neg h0]
    by_cases h1 : a > 1125899906842624
    · rw [Pk.num_bad (Or.inr h1), pack_Num.j0, if_pos (by simpa using h1)]
    · rw [Pk.num_ok (by omega) (by omega), pack_Num.j0, if_neg (by simpa using h1)]
      obtain ⟨n, rfl⟩ := Int.eq_ofNat_of_zero_le (show 0 ≤ a by omega)
      rw [Pk.pack_loop pack_Num.l0 (fun k x0 x4 => by rw [pack_Num.l0]) 7 n [] k (by omega) (by omega) (by simp), Int.toNat_natCast]
      rfl

theorem pack_j2 (k : Nat) (hk : 0 < k) (x1 x7 x8 : Int) (b : Bool) : pack_TakeNum.j2 k x1 x7 x8 b = if b = true then (some (0, 0, 32)) else (if x7 > 1125899906842624 then (some (0, 0, 32)) else (some (x7, wrap64 ((wrap64 (x1 + x8)) + 1), 0))) := by
  obtain ⟨k, rfl⟩ : ∃ m, k = m + 1 := ⟨k - 1, by omega⟩
  rw [pack_TakeNum.j2]

theorem pack_take (s : ByteArray) (hs : s.size ≤ 1000000000000000) (a : Nat) (ha : a ≤ s.size) : ∀ (f n i k : Nat), i + f = 8 → n < 128 ^ i → f + 1 < k → a + i ≤ s.size →
    pack_TakeNum.l0 k s a n (mn 8 (wrap64 ((s.size : Int) - (a : Int)))) i = some (Pk.placed a (Pk.dec f n i (s.data.toList.drop (a + i)))) := by
  have hlim : mn 8 (wrap64 ((s.size : Int) - (a : Int))) = ((min 8 (s.size - a) : Nat) : Int) := by
    rw [Pk.wrap_sub _ _ ha hs]
    unfold mn
    split <;> omega
  rw [hlim]
  intro f
  induction f with
  | zero =>
    intro n i k hif hn hk hi
    obtain ⟨k, rfl⟩ : ∃ m, k = m + 1 := ⟨k - 1, by omega⟩
    rw [pack_TakeNum.l0, if_neg (by omega), Pk.wrap_sub _ _ ha hs, if_pos (by omega)]
    rfl
  | succ f ih =>
    intro n i k hif hn hk hi
    obtain ⟨k, rfl⟩ : ∃ m, k = m + 1 := ⟨k - 1, by omega⟩
    rw [pack_TakeNum.l0]
    by_cases hlt : a + i < s.size
    · obtain ⟨b, hb, hbt⟩ := Pk.bt_drop s (a + i) hlt
      have hb8 : b.toNat < 256 := b.toNat_lt
      rw [if_pos (by omega), Pk.wrap_add _ _ (by omega) (by omega), if_pos (by omega), if_pos (by omega), if_pos (Pk.wrap_7 i (by omega)), hbt, Pk.group n i _ (by omega) hn hb8, hb, Pk.dec]
      by_cases hc : b.toNat < 128
      · rw [if_neg (by omega), if_pos hc]
        rw [pack_j2 k (by omega), pack_j2 k (by omega), Nat.mod_eq_of_lt hc]
        have hw : wrap64 (wrap64 ((a : Int) + (i : Int)) + 1) = ((a + i + 1 : Nat) : Int) := by rw [Pk.wrap_add _ _ (by omega) (by omega), Pk.wrap_up _ (by omega)]
        rw [hw]
        generalize n + b.toNat * 128 ^ i = N
        by_cases h0 : b.toNat = 0
        · rw [if_pos (by omega)]
          by_cases hi0 : 0 < i
          · rw [if_pos (by simp; omega), if_pos (Or.inl ⟨h0, hi0⟩)]; rfl
          · rw [if_neg (by simp; omega)]
            by_cases hN : N > 1125899906842624
            · rw [if_pos (by omega), if_pos (Or.inr hN)]; rfl
            · rw [if_neg (by omega), if_neg (by omega)]; unfold Pk.placed; simp; omega
        · rw [if_neg (by omega), if_neg (by decide)]
          by_cases hN : N > 1125899906842624
          · rw [if_pos (by omega), if_pos (Or.inr hN)]; rfl
          · rw [if_neg (by omega), if_neg (by omega)]; unfold Pk.placed; simp; omega
      · rw [if_pos (by omega), if_neg hc, Pk.wrap_up _ (by omega)]
        have := ih (n + b.toNat % 128 * 128 ^ i) (i + 1) k (by omega) (Pk.group_lt n i _ hn) (by omega) (by omega)
        rw [show a + i + 1 = a + (i + 1) from by omega]
        exact this
    · rw [if_neg (by omega), Pk.wrap_sub _ _ ha hs, if_neg (by omega), Pk.bt_end s (a + i) (by omega)]
      rfl

theorem pack_takeNum (s : ByteArray) (hs : s.size ≤ 1000000000000000) (a : Int) (k : Nat) (hk : 20 ≤ k) : pack_TakeNum.f k s a = some (Pk.takeNum s a) := by
  unfold pack_TakeNum.f Pk.takeNum
  obtain ⟨k, rfl⟩ : ∃ m, k = m + 1 := ⟨k - 1, by omega⟩
  by_cases h0 : a < 0
  · rw [if_pos h0, if_pos (Or.inl h0), pack_TakeNum.j0, if_pos rfl]
  · rw [if_neg h0]
    by_cases h1 : a > (s.size : Int)
    · rw [if_pos (Or.inr h1), pack_TakeNum.j0, if_pos (by simpa using h1)]
    · rw [if_neg (by omega), pack_TakeNum.j0, if_neg (by simpa using h1)]
      obtain ⟨n, rfl⟩ := Int.eq_ofNat_of_zero_le (show 0 ≤ a by omega)
      exact pack_take s hs n (by omega) 8 0 0 k (by omega) (by decide) (by omega) (by omega)

/-- The body of both TakeText's. -/
theorem text_body (s : ByteArray) (hs : s.size ≤ 1000000000000000) (a : Int) :
    ((some (Pk.takeNum s a)).bind fun bt112 => (if bt112.2.2 = 0 then (if bt112.1 > 2000 then (some ((⟨#[]⟩ : ByteArray), (0 : Int), (32 : Int))) else (if bt112.1 > (wrap64 ((s.size : Int) - bt112.2.1)) then (some ((⟨#[]⟩ : ByteArray), 0, 31)) else (if 0 ≤ bt112.2.1 then (if bt112.2.1 ≤ (wrap64 (bt112.2.1 + bt112.1)) then (if (wrap64 (bt112.2.1 + bt112.1)) ≤ (s.size : Int) then (some (s.extract (bt112.2.1 : Int).toNat ((wrap64 (bt112.2.1 + bt112.1)) : Int).toNat, wrap64 (bt112.2.1 + bt112.1), 0)) else (none)) else (none)) else (none)))) else (some ((⟨#[]⟩ : ByteArray), 0, bt112.2.2)))) = some (Pk.takeText s a) := by
  rw [Option.bind_some]
  unfold Pk.takeText
  by_cases h0 : (Pk.takeNum s a).2.2 = 0
  · have := Pk.takeNum_ok h0
    rw [if_pos h0, if_pos h0]
    by_cases h1 : (Pk.takeNum s a).1 > 2000
    · rw [if_pos h1, if_pos h1]
    · rw [if_neg h1, if_neg h1, wrap64_in ((s.size : Int) - _) (by omega)]
      by_cases h2 : (Pk.takeNum s a).1 > (s.size : Int) - (Pk.takeNum s a).2.1
      · rw [if_pos h2, if_pos h2]
      · rw [if_neg h2, if_neg h2, wrap64_in _ (by omega), if_pos (by omega), if_pos (by omega), if_pos (by omega)]
  · rw [if_neg h0, if_neg h0]

theorem pack_takeText (s : ByteArray) (hs : s.size ≤ 1000000000000000) (a : Int) (k : Nat) (hk : 20 ≤ k) : pack_TakeText.f k s a = some (Pk.takeText s a) := by
  unfold pack_TakeText.f
  rw [pack_takeNum s hs a k hk]
  exact text_body s hs a
theorem pack_texts (s : ByteArray) (hs : s.size ≤ 1000000000000000) (m : Nat) (hm : m ≤ 4000) : ∀ (n i k : Nat) (a : Int) (l : List ByteArray), i + n = m → l.length = i → n + 20 < k →
    pack_TakeList.l0 k s a l (m : Int) (i : Int) = some (Pk.takeTexts s n a l) := by
  intro n
  induction n with
  | zero =>
    intro i k a l hi hl hk
    obtain ⟨k, rfl⟩ : ∃ m, k = m + 1 := ⟨k - 1, by omega⟩
    rw [pack_TakeList.l0, if_neg (by omega)]
    rfl
  | succ n ih =>
    intro i k a l hi hl hk
    obtain ⟨k, rfl⟩ : ∃ m, k = m + 1 := ⟨k - 1, by omega⟩
    rw [pack_TakeList.l0, if_pos (by omega), pack_takeText s hs a k (by omega), Option.bind_some, Pk.takeTexts]
    by_cases h0 : (Pk.takeText s a).2.2 = 0
    · rw [if_pos h0, if_pos h0, if_pos (by omega), Pk.wrap_up i (by omega)]
      exact ih (i + 1) k _ _ (by omega) (by simp; omega) (by omega)
    · rw [if_neg h0, if_neg h0]

theorem pack_takeList (s : ByteArray) (hs : s.size ≤ 1000000000000000) (a : Int) (k : Nat) (hk : 4100 ≤ k) : pack_TakeList.f k s a = some (Pk.takeList s a) := by
  unfold pack_TakeList.f Pk.takeList
  rw [pack_takeNum s hs a k (by omega), Option.bind_some]
  by_cases h0 : (Pk.takeNum s a).2.2 = 0
  · have := Pk.takeNum_ok h0
    rw [if_pos h0, if_pos h0]
    by_cases h1 : (Pk.takeNum s a).1 > 4000
    · rw [if_pos h1, if_pos h1]
    · rw [if_neg h1, if_neg h1]
      have := pack_texts s hs (Pk.takeNum s a).1.toNat (by omega) (Pk.takeNum s a).1.toNat 0 k (Pk.takeNum s a).2.1 [] (by omega) rfl (by omega)
      rw [Int.toNat_of_nonneg (by omega)] at this
      exact this
  · rw [if_neg h0, if_neg h0]

theorem pack_text (s : ByteArray) (k : Nat) (hk : 20 ≤ k) : pack_Text.f k s = some (Pk.text s) := by
  unfold pack_Text.f Pk.text
  by_cases h0 : s.size > 2000
  · rw [if_pos (by omega), if_pos h0]
  · rw [if_neg (by omega), if_neg h0, pack_num _ k hk, Option.bind_some, Pk.num_ok (by omega) (by omega)]
    have hl := Pk.enc_len8 (n := s.size) (by omega)
    rw [Int.toNat_natCast, Joins.pack_join.f, Pk.cat_two, if_pos ⟨Pk.two_len hl h0, by simp⟩]
    rfl
theorem pack_list_loop (l : List ByteArray) (hl : l.length ≤ 4000) : ∀ (n i k : Nat) (acc : List ByteArray), i + n = l.length → n + 20 < k → acc.length = i + 1 →
    (Joins.cat acc).length ≤ 8 + 2008 * i →
    pack_List.l0 k acc l (l.length : Int) (i : Int) = some (match Pk.texts (l.drop i) with | none => (⟨#[]⟩, 2) | some t => (⟨(Joins.cat acc ++ t).toArray⟩, 0)) := by
  intro n
  induction n with
  | zero =>
    intro i k acc hi hk ha hc
    obtain ⟨k, rfl⟩ : ∃ m, k = m + 1 := ⟨k - 1, by omega⟩
    rw [pack_List.l0, if_neg (by omega), Joins.pack_join.f, if_pos (by omega), Option.bind_some, List.drop_of_length_le (by omega)]
    simp [Pk.texts]
  | succ n ih =>
    intro i k acc hi hk ha hc
    obtain ⟨k, rfl⟩ : ∃ m, k = m + 1 := ⟨k - 1, by omega⟩
    have hix : i < l.length := by omega
    have ex : rdOf ByteArray.empty l (i : Int) = l[i] := by unfold rdOf; simp [List.getD, List.getElem?_eq_getElem hix]
    rw [pack_List.l0, if_pos (by omega), if_pos (by omega), if_pos (by omega), ex, pack_text _ k (by omega), Option.bind_some, List.drop_eq_getElem_cons hix, Pk.texts]
    by_cases h0 : l[i].size > 2000
    · rw [Pk.text_long h0, if_neg (by decide), if_pos h0]
    · rw [Pk.text_ok h0, if_neg h0]
      simp only [if_true]
      rw [if_pos (by omega), Pk.wrap_up i (by omega)]
      have hlen := Pk.item_len (s := l[i]) (by omega)
      rw [ih (i + 1) k _ (by omega) (by omega) (by simp; omega) (by rw [Pk.cat_snoc, List.length_append, show (⟨(Pk.item l[i]).toArray⟩ : ByteArray).data.toList = Pk.item l[i] from rfl]; omega), Pk.cat_snoc]
      cases Pk.texts (List.drop (i + 1) l) with
      | none => rfl
      | some t => simp

theorem pack_list (l : List ByteArray) (k : Nat) (hk : 4100 ≤ k) : pack_List.f k l = some (Pk.list l) := by
  unfold pack_List.f Pk.list
  by_cases h0 : l.length > 4000
  · rw [if_pos (by omega), if_pos h0]
  · rw [if_neg (by omega), if_neg h0, pack_num _ k (by omega), Option.bind_some, Pk.num_ok (by omega) (by omega), Int.toNat_natCast]
    have hl := Pk.enc_len8 (n := l.length) (by omega)
    have := pack_list_loop l (by omega) l.length 0 k [⟨(Pk.enc l.length).toArray⟩] (by omega) (by omega) rfl (by simp [Joins.cat]; omega)
    rw [List.drop_zero] at this
    rw [show ((0 : Nat) : Int) = 0 from rfl] at this
    rw [this]
    cases Pk.texts l <;> simp [Joins.cat]
end Go.Proofs.Ytahonoeiamjgbaa.PkH

/- The plain words of chapter 1: a text's runes, small letters, names. -/
namespace Go.Proofs.Ytahonoeiamjgbaa.Nm

/-- The runes of a text from a byte on. -/
def runesF (s : ByteArray) : Nat → Nat → List Int
  | 0, _ => []
  | f + 1, pos => if pos < s.size then ((Utf8.decode s pos).1 : Int) :: runesF s f (pos + (Utf8.decode s pos).2) else []
def runes (s : ByteArray) : List Int := runesF s s.size 0

theorem decode_pos (s : ByteArray) (pos : Nat) : 1 ≤ (Utf8.decode s pos).2 := by
  simp only [Utf8.decode]
  repeat' split
  all_goals simp

theorem runesF_end (s : ByteArray) (f pos : Nat) (h : s.size ≤ pos) : runesF s f pos = [] := by
  cases f with
  | zero => rfl
  | succ f => rw [runesF, if_neg (by omega)]
theorem runesF_more (s : ByteArray) : ∀ (f g pos : Nat), s.size - pos ≤ f → f ≤ g → runesF s g pos = runesF s f pos := by
  intro f
  induction f with
  | zero => intro g pos h _; rw [runesF_end s g pos (by omega)]; rfl
  | succ f ih =>
    intro g pos h hg
    obtain ⟨g, rfl⟩ : ∃ m, g = m + 1 := ⟨g - 1, by omega⟩
    rw [runesF, runesF]
    have := decode_pos s pos
    by_cases hp : pos < s.size
    · rw [if_pos hp, if_pos hp, ih g _ (by omega) (by omega)]
    · rw [if_neg hp, if_neg hp]
/-- From a byte on, with as many rounds as there are bytes. -/
def from_ (s : ByteArray) (pos : Nat) : List Int := runesF s (s.size - pos) pos
theorem from_zero (s : ByteArray) : from_ s 0 = runes s := rfl
theorem from_end (s : ByteArray) (pos : Nat) (h : s.size ≤ pos) : from_ s pos = [] := runesF_end s _ pos h
theorem from_step (s : ByteArray) (pos : Nat) (h : pos < s.size) : from_ s pos = ((Utf8.decode s pos).1 : Int) :: from_ s (pos + (Utf8.decode s pos).2) := by
  unfold from_
  obtain ⟨f, hf⟩ : ∃ f, s.size - pos = f + 1 := ⟨s.size - pos - 1, by omega⟩
  rw [hf, runesF, if_pos h]
  have := decode_pos s pos
  rw [runesF_more s (s.size - (pos + (Utf8.decode s pos).2)) f _ (Nat.le_refl _) (by omega)]

/-- Is a rune a small letter? -/
def letterR (r : Int) : Bool := (decide (97 ≤ r) && decide (r ≤ 122)) || (decide (945 ≤ r) && decide (r ≤ 969)) || decide (r = 228) || decide (r = 246) || decide (r = 252) || decide (r = 223)
/-- May a rune stand in a name behind so many others? -/
def mayR (r : Int) (n : Nat) : Bool := letterR r || (decide (0 < n) && (decide (r = 45) || (decide (48 ≤ r) && decide (r ≤ 57))))
def isGo : List Int → Nat → Bool
  | [], n => decide (0 < n) && decide (n ≤ 8)
  | r :: l, n => mayR r n && isGo l (n + 1)
/-- Is a text a name? -/
def isName (s : ByteArray) : Bool := isGo (runes s) 0

theorem from_len (s : ByteArray) : ∀ (n pos : Nat), s.size - pos = n → (from_ s pos).length ≤ n := by
  intro n
  induction n using Nat.strongRecOn with
  | _ n ih =>
    intro pos h
    by_cases hp : pos < s.size
    · rw [from_step s pos hp, List.length_cons]
      have := decode_pos s pos
      have := ih (s.size - (pos + (Utf8.decode s pos).2)) (by omega) _ rfl
      omega
    · rw [from_end s pos (by omega)]; simp
theorem runes_len (s : ByteArray) : (runes s).length ≤ s.size := from_len s s.size 0 (by omega)

/-! ### names, byte by byte -/
def nameRune (r : Int) : Bool := letterR r || (decide (r = 45) || (decide (48 ≤ r) && decide (r ≤ 57)))
theorem nameRune_iff (r : Int) : nameRune r = true ↔ (97 ≤ r ∧ r ≤ 122) ∨ (945 ≤ r ∧ r ≤ 969) ∨ r = 228 ∨ r = 246 ∨ r = 252 ∨ r = 223 ∨ r = 45 ∨ (48 ≤ r ∧ r ≤ 57) := by
  simp only [nameRune, letterR, Bool.or_eq_true, Bool.and_eq_true, decide_eq_true_eq]
  omega
def AllName (s : ByteArray) : Prop := ∀ r ∈ runes s, nameRune r = true
theorem isGo_all : ∀ (l : List Int) (n : Nat), isGo l n = true → ∀ r ∈ l, nameRune r = true
  | [], _, _, r, hr => by simp at hr
  | x :: l, n, h, r, hr => by
    rw [isGo, Bool.and_eq_true] at h
    rcases List.mem_cons.1 hr with rfl | hr
    · have := h.1
      simp only [mayR, nameRune, Bool.or_eq_true, Bool.and_eq_true] at this ⊢
      rcases this with h1 | h1
      · exact Or.inl h1
      · exact Or.inr h1.2
    · exact isGo_all l _ h.2 r hr
theorem isName_all {s : ByteArray} (h : isName s = true) : AllName s := isGo_all _ _ h

theorem get_extract (b : ByteArray) (n j : Nat) : (b.extract n b.size).get! j = b.get! (n + j) := by
  have hs : (b.extract n b.size).size = b.size - n := by rw [ByteArray.size_extract]; omega
  by_cases h : n + j < b.size
  · have h1 : j < (b.extract n b.size).size := by omega
    have e1 : (b.extract n b.size).get! j = (b.extract n b.size)[j]'h1 := by
      show (b.extract n b.size).data[j]! = _
      exact getElem!_pos (b.extract n b.size).data j h1
    have e2 : b.get! (n + j) = b[n + j]'h := by
      show b.data[n + j]! = _
      simp [h]
      rfl
    rw [e1, e2, ByteArray.getElem_extract]
  · have e1 : (b.extract n b.size).get! j = default := by
      show (b.extract n b.size).data[j]! = _
      rw [getElem!_neg]
      show ¬ j < (b.extract n b.size).size
      omega
    have e2 : b.get! (n + j) = default := by
      show b.data[n + j]! = _
      rw [getElem!_neg]
      exact h
    rw [e1, e2]
theorem decode_extract (b : ByteArray) (n i : Nat) : Utf8.decode (b.extract n b.size) i = Utf8.decode b (n + i) := by
  have hs : (b.extract n b.size).size = b.size - n := by rw [ByteArray.size_extract]; omega
  have hg : ∀ k, (b.extract n b.size).get! (i + k) = b.get! (n + i + k) := fun k => by rw [get_extract, Nat.add_assoc]
  have hc : ∀ k, (decide (i + k < (b.extract n b.size).size)) = decide (n + i + k < b.size) := fun k => by
    rw [hs]
    by_cases h : n + i + k < b.size
    · rw [decide_eq_true h, decide_eq_true (by omega)]
    · rw [decide_eq_false h, decide_eq_false (by omega)]
  simp only [Utf8.decode, hg, hc]
theorem from_extract (b : ByteArray) (n : Nat) : ∀ (m pos : Nat), b.size - (n + pos) = m → from_ (b.extract n b.size) pos = from_ b (n + pos) := by
  have hs : (b.extract n b.size).size = b.size - n := by rw [ByteArray.size_extract]; omega
  intro m
  induction m using Nat.strongRecOn with
  | _ m ih =>
    intro pos hm
    by_cases hp : n + pos < b.size
    · have := decode_pos b (n + pos)
      rw [from_step b _ hp, from_step (b.extract n b.size) pos (by omega), decode_extract, ih (b.size - (n + (pos + (Utf8.decode b (n + pos)).2))) (by omega) _ rfl, Nat.add_assoc]
    · rw [from_end b _ (by omega), from_end _ _ (by omega)]
theorem runes_extract (b : ByteArray) (n : Nat) : runes (b.extract n b.size) = from_ b n := by
  rw [← from_zero, from_extract b n _ 0 rfl, Nat.add_zero]

/-- A byte of a text. -/
def byte (s : ByteArray) (i : Nat) : Nat := (s.data.toList.getD i 0).toNat
theorem byte_lt (s : ByteArray) (i : Nat) : byte s i < 256 := (s.data.toList.getD i 0).toNat_lt
theorem byte_at (s : ByteArray) (i : Nat) (h : i < s.size) : (s[i]'h).toNat = byte s i := by
  unfold byte
  rw [List.getD_eq_getElem?_getD, List.getElem?_eq_getElem (by simpa using h)]
  rfl
theorem byte_get (s : ByteArray) (i : Nat) (h : i < s.size) : (s.get! i).toNat = byte s i := by
  rw [← byte_at s i h]
  show (s.data[i]!).toNat = _
  simp [h]
  rfl

/-- The first rune of a text all of whose runes may stand in a name. -/
theorem decode_first {s : ByteArray} (h : 0 < s.size) (hn : nameRune (Utf8.decode s 0).1 = true) :
    (byte s 0 < 128 ∧ Utf8.decode s 0 = (byte s 0, 1)) ∨ (2 ≤ s.size ∧ (Utf8.decode s 0).2 = 2 ∧ (byte s 0 = 195 ∨ byte s 0 = 206 ∨ byte s 0 = 207)) := by
  by_cases h0 : byte s 0 < 128
  · left
    refine ⟨h0, ?_⟩
    have := decode_ascii s 0 h (by rw [byte_at]; exact h0)
    rw [this, byte_at]
  · right
    rw [nameRune_iff] at hn
    have hb0 := byte_lt s 0
    have e0 : (s.get! (0 + 0)).toNat = byte s 0 := byte_get s 0 h
    simp only [Utf8.decode, e0, Nat.zero_add] at hn ⊢
    rw [if_neg h0] at hn ⊢
    by_cases h1 : ((byte s 0 / 32 == 6) && (decide (1 < s.size) && (s.get! 1).toNat / 64 == 2)) = true
    · simp only [h1, if_true] at hn ⊢
      simp only [Bool.and_eq_true, decide_eq_true_eq, beq_iff_eq] at h1
      by_cases h2 : byte s 0 % 32 * 64 + (s.get! 1).toNat % 64 ≥ 128
      · rw [if_pos h2] at hn ⊢
        simp only at hn ⊢
        obtain ⟨h3, h4, h5⟩ := h1
        refine ⟨by omega, trivial, ?_⟩
        omega
      · rw [if_neg h2] at hn
        simp only [Utf8.runeError] at hn
        omega
    · exfalso
      simp only [h1] at hn
      repeat' split at hn
      all_goals simp only [Utf8.runeError, Bool.and_eq_true, decide_eq_true_eq, ge_iff_le] at *
      all_goals first | omega | contradiction
theorem runes_first {s : ByteArray} (h : 0 < s.size) : runes s = ((Utf8.decode s 0).1 : Int) :: from_ s (Utf8.decode s 0).2 := by
  rw [← from_zero, from_step s 0 h, Nat.zero_add]
end Go.Proofs.Ytahonoeiamjgbaa.Nm

/- name.letter and name.Is: the walks, by hand. -/
namespace Go.Proofs.Ytahonoeiamjgbaa.NameWalk
open Go.RowKit Go.IntWalk Go.Proofs.YtahonoeiamjgbaaW.PrintWords Go.Proofs.YtahonoeiamjgbaaW.PrintMore

set_option maxHeartbeats 400000 in
theorem letter_calls (r : Int) (w : World) (h0 : 0 ≤ r) (h1 : r ≤ 2147483647) :
    Calls Try.prog 45 #[.int .i32 r] w fun e w' => e = .returned (.bool (Nm.letterR r)) ∧ w' = w := by
  have hl : Nm.letterR r = ((decide (97 ≤ r) && decide (r ≤ 122)) || (decide (945 ≤ r) && decide (r ≤ 969)) || decide (r = 228) || decide (r = 246) || decide (r = 252) || decide (r = 223)) := rfl
  have HL := Aside0.mk hl
  clear hl
  go_enter Try.func45, Try.ntmps45
  go_wp2
  all_goals
    go_ret
    refine ⟨congrArg (fun b => Ending.returned (Value.bool b)) ?_, rfl⟩
    first | (subst_vars; decide) | (rw [HL.out, Bool.eq_iff_iff]; simp; done) | (rw [HL.out, Bool.eq_iff_iff]; simp; omega)

/-- What holds at the loop's head: so many runes have been read, and may stand; the rest is still to come. -/
def Head (w : World) (s : ByteArray) (v3 : Value) (wr : World) : Prop :=
  ∃ pos n : Nat, n + (Nm.from_ s pos).length ≤ s.size ∧ v3 = .int .i64 n ∧ wr = w.iter s pos ∧ Nm.isName s = Nm.isGo (Nm.from_ s pos) n

theorem go_true {l : List Int} {r : Int} {n : Nat} (h : Nm.mayR r n = true) : Nm.isGo (r :: l) n = Nm.isGo l (n + 1) := by rw [Nm.isGo, h, Bool.true_and]
theorem go_false {l : List Int} {r : Int} {n : Nat} (h : Nm.mayR r n = false) : Nm.isGo (r :: l) n = false := by rw [Nm.isGo, h, Bool.false_and]

set_option maxHeartbeats 1000000 in
theorem is_calls (s : ByteArray) (w : World) (hs : s.size ≤ 9000000000000000000) :
    Calls Try.prog 40 #[.string s] w fun e w' => e = .returned (.bool (Nm.isName s)) ∧ Below w.heap.size w w' := by
  have HS := Aside0.mk hs
  clear hs
  go_enter Try.func40, Try.ntmps40
  go_wp2
  go_loopw [3] (fun v3 wr => Head w s v3 wr) (fun _ wr => s.size - wr.iterPos w.heap.size)
  case atStart => exact ⟨0, 0, by rw [Nm.from_zero, Nat.zero_add]; exact Nm.runes_len s, rfl, rfl, rfl⟩
  case round =>
    obtain ⟨pos, n, hn, rfl, rfl, hi⟩ := hrel
    by_cases hlt : pos < s.size
    · have hnext := fun ty => run_next_any (P := Try.prog) w s pos ty hlt
      have hle := decode_le s pos
      have hpos := Nm.decode_pos s pos
      rw [Nm.from_step s pos hlt] at hi hn
      generalize (Utf8.decode s pos).1 = r at *
      generalize (Utf8.decode s pos).2 = c at *
      rw [List.length_cons] at hn
      have hsize := HS.out
      have HN := Aside0.mk hn
      have HI := Aside0.mk hi
      have HB : Aside0 (Below w.heap.size w (w.iter s (pos + c))) := ⟨(Below.refl _ _).alloc (Nat.le_refl _) _⟩
      have hn9 : (n : Int) + 1 ≤ 9223372036854775807 := by omega
      clear hi hn hsize
      cases hb : Nm.letterR (r : Int)
      · by_cases hn0 : n = 0
        · subst hn0
          have hm : Nm.mayR r 0 = false := by simp [Nm.mayR, hb]
          have HM := Aside0.mk hm
          have HLB := Aside0.mk hb
          clear hm hb
          go_wp2_with (go_at_call 45; refine (letter_calls _ _ (by omega) (by omega)).mono ?_; rw [HLB.out]; rintro e w' ⟨rfl, rfl⟩)
          go_ret
          rw [HI.out, go_false HM.out]
          exact ⟨rfl, HB.out⟩
        · by_cases hd : (r : Int) = 45 ∨ (48 ≤ (r : Int) ∧ (r : Int) ≤ 57)
          · have hm : Nm.mayR r n = true := by
              simp [Nm.mayR]
              omega
            have HM := Aside0.mk hm
            have HLB := Aside0.mk hb
            clear hm hb
            have hn1 : ((n : Int) == 0) = false := by simp; omega
            by_cases h45 : (r : Int) = 45
            · have h45b : ((r : Int) != 45) = false := by simp; omega
              clear h45 hd
              go_wp2_with (go_at_call 45; refine (letter_calls _ _ (by omega) (by omega)).mono ?_; rw [HLB.out]; rintro e w' ⟨rfl, rfl⟩)
              go_roundw
              case rel => exact ⟨pos + c, n + 1, by have := HN.out; omega, by go_num, rfl, by rw [HI.out, go_true HM.out]⟩
              case measure => simp; omega
            · have h45b : ((r : Int) != 45) = true := by simp; omega
              have hlo : decide ((r : Int) < 48) = false := decide_eq_false (by omega)
              have hhi : decide (57 < (r : Int)) = false := decide_eq_false (by omega)
              clear h45 hd
              go_wp2_with (go_at_call 45; refine (letter_calls _ _ (by omega) (by omega)).mono ?_; rw [HLB.out]; rintro e w' ⟨rfl, rfl⟩)
              go_roundw
              case rel => exact ⟨pos + c, n + 1, by have := HN.out; omega, by go_num, rfl, by rw [HI.out, go_true HM.out]⟩
              case measure => simp; omega
          · have hm : Nm.mayR r n = false := by
              rw [Nm.mayR, hb, Bool.false_or, Bool.and_eq_false_iff]
              right
              simp
              omega
            have HM := Aside0.mk hm
            have HLB := Aside0.mk hb
            clear hm hb
            have hn1 : ((n : Int) == 0) = false := by simp; omega
            have h45b : ((r : Int) != 45) = true := by simp; omega
            by_cases h48 : (r : Int) < 48
            · have hlo : decide ((r : Int) < 48) = true := decide_eq_true h48
              clear h48 hd
              go_wp2_with (go_at_call 45; refine (letter_calls _ _ (by omega) (by omega)).mono ?_; rw [HLB.out]; rintro e w' ⟨rfl, rfl⟩)
              go_ret
              rw [HI.out, go_false HM.out]
              exact ⟨rfl, HB.out⟩
            · have hlo : decide ((r : Int) < 48) = false := decide_eq_false h48
              have hhi : decide (57 < (r : Int)) = true := decide_eq_true (by omega)
              clear h48 hd
              go_wp2_with (go_at_call 45; refine (letter_calls _ _ (by omega) (by omega)).mono ?_; rw [HLB.out]; rintro e w' ⟨rfl, rfl⟩)
              go_ret
              rw [HI.out, go_false HM.out]
              exact ⟨rfl, HB.out⟩
      · have hm : Nm.mayR r n = true := by simp [Nm.mayR, hb]
        have HM := Aside0.mk hm
        have HLB := Aside0.mk hb
        clear hm hb
        go_wp2_with (go_at_call 45; refine (letter_calls _ _ (by omega) (by omega)).mono ?_; rw [HLB.out]; rintro e w' ⟨rfl, rfl⟩)
        go_roundw
        case rel => exact ⟨pos + c, n + 1, by have := HN.out; omega, by go_num, rfl, by rw [HI.out, go_true HM.out]⟩
        case measure => simp; omega
    · have hnext := fun ty => run_next_end (P := Try.prog) w s pos ty hlt
      rw [Nm.from_end s pos (by omega)] at hi hn
      have HI := Aside0.mk hi
      have HB : Aside0 (Below w.heap.size w (w.iter s pos)) := ⟨(Below.refl _ _).alloc (Nat.le_refl _) _⟩
      have hsize := HS.out
      have hn9 : (n : Int) ≤ 9223372036854775807 := by simp only [List.length_nil] at hn; omega
      clear hi hn hsize
      go_wp2
      all_goals
        go_ret
        refine ⟨?_, HB.out⟩
        rw [HI.out]
        refine congrArg (fun b => Ending.returned (Value.bool b)) ?_
        rw [Nm.isGo, Bool.eq_iff_iff]
        first | (simp; done) | (simp; omega)
end Go.Proofs.Ytahonoeiamjgbaa.NameWalk

/- What name.Compare says of two names, as far as codec leans on it: left open here (over the tables of unicode/utf8 as they lie: XCmp2). -/
namespace Go.Proofs.Ytahonoeiamjgbaa.Tabs
open Go.RowKit

class Tab where
  cmp : ByteArray → ByteArray → Int
  At : World → Prop
  below : ∀ {w w1 : World}, At w → Below w.heap.size w w1 → At w1
  calls : ∀ (a b : ByteArray) (w : World), At w → Nm.AllName a → Nm.AllName b → a.size ≤ 9000000000000000000 → b.size ≤ 9000000000000000000 →
    Calls Try.prog 94 #[.string a, .string b] w fun e w' => e = .returned (.int .i64 (cmp a b)) ∧ Below w.heap.size w w'
end Go.Proofs.Ytahonoeiamjgbaa.Tabs

/- codec.must and the form's num, text and list: the walks, by hand. -/
namespace Go.Proofs.Ytahonoeiamjgbaa.CdForm
open Go.RowKit Go.IntWalk Go.Proofs.Ytahonoeiamjgbaa.G Go.Proofs.YtahonoeiamjgbaaW.PrintWords Go.Proofs.YtahonoeiamjgbaaW.PrintLast Go.Proofs.YtahonoeiamjgbaaW.PrintMore

/-- The value that is thrown. -/
def broken : List PanicEntry := [{ v := .iface 154 (.agg #[]), recovered := false }]

set_option maxHeartbeats 400000 in
theorem must_yes (w : World) : Calls Try.prog 90 #[.bool true] w fun e w' => e = .returned (.tuple #[]) ∧ w' = w := by
  go_enter Try.func90, Try.ntmps90
  go_wp2
  go_end0
  exact ⟨rfl, rfl⟩
set_option maxHeartbeats 400000 in
theorem must_no (w : World) : Calls Try.prog 90 #[.bool false] w fun e w' => e = .panicked broken ∧ w' = w := by
  go_enter Try.func90, Try.ntmps90
  go_wp2
  exact ⟨rfl, rfl, rfl⟩

/-- Nothing but two blocks has changed, and new ones have come. -/
structure But2 (w w' : World) (g h : Nat) : Prop where
  os : w'.os = w.os
  tape : w'.tape = w.tape
  output : w'.output = w.output
  size : w.heap.size ≤ w'.heap.size
  block : ∀ k, k < w.heap.size → k ≠ g → k ≠ h → w'.heap[k]? = w.heap[k]?

/-- A form that reads, or writes. -/
def FormAt (w : World) (g : Nat) (write : Bool) (s : ByteArray) (a : Int) : Prop := w.heap[g]? = some (.cells #[.bool write, .string s, .int .i64 a] 97 (0, 0))

theorem FormAt.cell0 {w : World} {g : Nat} {b : Bool} {s : ByteArray} {a : Int} (h : FormAt w g b s a) : w.cell? ⟨g, 0, none⟩ = some (.bool b) := by
  unfold FormAt at h
  simp [World.cell?, h]
theorem FormAt.cell1 {w : World} {g : Nat} {b : Bool} {s : ByteArray} {a : Int} (h : FormAt w g b s a) : w.cell? ⟨g, 1, none⟩ = some (.string s) := by
  unfold FormAt at h
  simp [World.cell?, h]
theorem FormAt.cell2 {w : World} {g : Nat} {b : Bool} {s : ByteArray} {a : Int} (h : FormAt w g b s a) : w.cell? ⟨g, 2, none⟩ = some (.int .i64 a) := by
  unfold FormAt at h
  simp [World.cell?, h]
theorem FormAt.free {w : World} {g : Nat} {b : Bool} {s : ByteArray} {a : Int} (h : FormAt w g b s a) (j : Nat) : w.frozen? ⟨g, j, none⟩ = false := by
  unfold FormAt at h
  simp [World.frozen?, h]
theorem FormAt.below {w w1 : World} {g : Nat} {b : Bool} {s : ByteArray} {a : Int} (h : FormAt w g b s a) (hb : Below w.heap.size w w1) : FormAt w1 g b s a :=
  (hb.block g (Array.getElem?_eq_some_iff.1 h).1).trans h
theorem FormAt.lt {w : World} {g : Nat} {b : Bool} {s : ByteArray} {a : Int} (h : FormAt w g b s a) : g < w.heap.size := (Array.getElem?_eq_some_iff.1 h).1

theorem row_cell {w : World} {g t j : Nat} {arr : Array Value} {v : Value} (hg : w.heap[g]? = some (.cells arr t (0, 0))) (hj : arr[j]? = some v) : w.cell? ⟨g, j, none⟩ = some v := by
  simp [World.cell?, hg, hj]
theorem free_of_row {w : World} {g t j : Nat} {arr : Array Value} (hg : w.heap[g]? = some (.cells arr t (0, 0))) : w.frozen? ⟨g, j, none⟩ = false := by
  simp [World.frozen?, hg]
theorem row_below {w w1 : World} {g : Nat} {o : Obj} (hb : Below w.heap.size w w1) (hg : w.heap[g]? = some o) : w1.heap[g]? = some o :=
  (hb.block g (Array.getElem?_eq_some_iff.1 hg).1).trans hg
theorem cell_below {w w1 : World} {a : Addr} {v : Value} (hb : Below w.heap.size w w1) (h : w.cell? a = some v) : w1.cell? a = some v :=
  (hb.cell (World.block_lt_of_cell? w _ h)).trans h

theorem But2.of_below {w w1 : World} {g h : Nat} (hb : Below w.heap.size w w1) : But2 w w1 g h :=
  ⟨hb.os, hb.tape, hb.output, hb.size, fun k hk _ _ => hb.block k hk⟩
theorem But2.refl (w : World) (g h : Nat) : But2 w w g h := ⟨rfl, rfl, rfl, Nat.le_refl _, fun _ _ _ _ => rfl⟩
theorem But2.trans {a b c : World} {g h : Nat} (x : But2 a b g h) (y : But2 b c g h) : But2 a c g h :=
  ⟨y.os.trans x.os, y.tape.trans x.tape, y.output.trans x.output, Nat.le_trans x.size y.size, fun k hk h1 h2 => (y.block k (Nat.lt_of_lt_of_le hk x.size) h1 h2).trans (x.block k hk h1 h2)⟩

/-- A store into a row. -/
theorem row_setCell {w : World} {g t : Nat} {arr : Array Value} (hg : w.heap[g]? = some (.cells arr t (0, 0))) (j : Nat) (v : Value) :
    (w.setCell ⟨g, j, none⟩ v).heap[g]? = some (.cells (arr.setIfInBounds j v) t (0, 0)) := by
  show (w.heap.modify g _)[g]? = _
  rw [Array.getElem?_modify, if_pos rfl, hg]
  rfl
theorem row_setCell_ne {w : World} {g : Nat} {o : Obj} (hg : w.heap[g]? = some o) (a : Addr) (v : Value) (h : g ≠ a.block) :
    (w.setCell a v).heap[g]? = some o := (Below.heap_setCell w a v g h).trans hg

/-- What a call of num, text, list leaves behind that reads into a cell: the cell, the place; two blocks alone have changed. -/
structure Took (w w' : World) (g t j : Nat) (arr : Array Value) (v : Value) (gf : Nat) (s : ByteArray) (a : Int) : Prop where
  row : w'.heap[g]? = some (.cells (arr.setIfInBounds j v) t (0, 0))
  form : FormAt w' gf false s a
  but : But2 w w' g gf

theorem Took.of {w w2 : World} {g t j : Nat} {arr : Array Value} {gf : Nat} {s : ByteArray} {a a' : Int} {v : Value} (hne : g ≠ gf)
    (hg : w2.heap[g]? = some (.cells arr t (0, 0))) (hf : FormAt w2 gf false s a) (hb : Below w.heap.size w w2) :
    Took w ((w2.setCell ⟨g, j, none⟩ v).setCell ⟨gf, 2, none⟩ (.int .i64 a')) g t j arr v gf s a' := by
  refine ⟨row_setCell_ne (row_setCell hg j v) _ _ hne, ?_, ⟨hb.os, hb.tape, hb.output, ?_, ?_⟩⟩
  · unfold FormAt at *
    rw [row_setCell (row_setCell_ne hf ⟨g, j, none⟩ v (fun h => hne h.symm))]
    rfl
  · show _ ≤ ((w2.setCell _ _).setCell _ _).heap.size
    simpa [World.setCell] using hb.size
  · intro k hk h1 h2
    rw [Below.heap_setCell _ _ _ _ h2, Below.heap_setCell _ _ _ _ h1]
    exact hb.block k hk

set_option maxHeartbeats 2000000 in
set_option maxRecDepth 100000 in
theorem num_read (w : World) (g t j : Nat) (arr : Array Value) (v0 : Int) (gf : Nat) (s : ByteArray) (a : Int) (hg : w.heap[g]? = some (.cells arr t (0, 0))) (hj : arr[j]? = some (.int .i64 v0)) (hne2 : g ≠ gf)
    (hf : FormAt w gf false s a) (hs : s.size ≤ 1000000000000000) :
    Calls Try.prog 83 #[.pointer (some ⟨gf, 0, none⟩), .pointer (some ⟨g, j, none⟩)] w fun e w' =>
      ((Pk.takeNum s a).2.2 = 0 ∧ e = .returned (.tuple #[]) ∧ Took w w' g t j arr (.int .i64 (Pk.takeNum s a).1) gf s (Pk.takeNum s a).2.1) ∨
      ((Pk.takeNum s a).2.2 ≠ 0 ∧ e = .panicked broken ∧ But2 w w' g gf) := by
  have h0 := hf.cell0
  have h1 := hf.cell1
  have h2 := hf.cell2
  have hp := row_cell hg hj
  have hpz := free_of_row (j := j) hg
  have hz2 := hf.free 2
  have htake : pack_TakeNum.f 20 s a = some ((Pk.takeNum s a).1, (Pk.takeNum s a).2.1, (Pk.takeNum s a).2.2) := PkH.pack_takeNum s hs a 20 (Nat.le_refl _)
  have HT := Aside0.mk htake
  have HF := Aside0.mk hf
  have HG := Aside0.mk hg
  clear htake hf hg
  generalize (Pk.takeNum s a).1 = n at *
  generalize (Pk.takeNum s a).2.1 = nx at *
  generalize (Pk.takeNum s a).2.2 = er at *
  have HE : Aside0 (er = 0 ∨ er ≠ 0) := ⟨by omega⟩
  go_enter Try.func83, Try.ntmps83
  go_wp2_with fail
  go_region_held3 (fun w' => w'.cell? ⟨gf, 1, none⟩ = some (.string s) ∧ w'.cell? ⟨gf, 2, none⟩ = some (.int .i64 a))
    (first | exact ⟨h1, h2⟩ | exact ⟨(hb.cell (World.block_lt_of_cell? w _ h1)).trans h1, (hb.cell (World.block_lt_of_cell? w _ h2)).trans h2⟩ | go_keep)
    (first | (go_at_call 91; refine (pack_TakeNum.calls 20 _ _ _ _ _ _ HT.out).mono ?_; rintro e w1 ⟨rfl, hb⟩; replace hb : Below w.heap.size w w1 := ⟨hb.os, hb.tape, hb.output, hb.size, hb.block⟩; have HG1 := Aside0.mk (row_below hb HG.out); have HF1 := Aside0.mk (HF.out.below hb); have hp1 := cell_below hb hp; have hpz1 := free_of_row (j := j) HG1.out; have h21 := HF1.out.cell2; have hz21 := HF1.out.free 2))
  rcases HE.out with he | he
  · subst he
    go_wp2_with (go_at_call 90; refine (must_yes _).mono ?_; rintro e w2 ⟨rfl, rfl⟩)
    go_end0
    exact ⟨rfl, Took.of hne2 HG1.out HF1.out hb⟩
  · have hE : (er == 0) = false := by simpa using he
    have HEE := Aside0.mk he
    clear he
    go_wp2_with (go_at_call 90; refine (must_no _).mono ?_; rintro e w2 ⟨rfl, rfl⟩)
    exact ⟨rfl, Or.inr ⟨HEE.out, rfl, But2.of_below hb⟩⟩

/-- A row of one's own stays where two elder blocks are written. -/
theorem R_two {α : Type} {d : Kd α} {e base : Nat} {w : World} {v : Value} {xs : List α} (h : d.R e w base (fun _ => True) v xs) {p q : Addr} (hp : p.block < base) (hq : q.block < base) (x y : Value) :
    d.R e ((w.setCell p x).setCell q y) base (fun _ => True) v xs := by
  have h1 := Kd.R_bound h
  have h2 := Kd.R_far (p := p) h1 (fun k hk => by have := hk.2.1; omega) x
  have h3 := Kd.R_far (p := q) h2 (fun k hk => by have := hk.2.1; omega) y
  exact Kd.R_mono h3 (fun _ _ => trivial)
theorem R_slot {α : Type} {d : Kd α} {e base : Nat} {w : World} {ok : Nat → Prop} {v : Value} {xs : List α} (h : d.R e w base ok v xs) : ∃ A n c, v = .slice A n c := by
  obtain ⟨A, c, h⟩ := Kd.R_slice h
  exact ⟨A, _, c, h⟩

set_option maxHeartbeats 2000000 in
set_option maxRecDepth 100000 in
theorem list_read (w : World) (g t j : Nat) (arr : Array Value) (A0 : Option Addr) (n0 c0 : Nat) (gf : Nat) (s : ByteArray) (a : Int) (hg : w.heap[g]? = some (.cells arr t (0, 0))) (hj : arr[j]? = some (.slice A0 n0 c0)) (hne2 : g ≠ gf)
    (hf : FormAt w gf false s a) (hs : s.size ≤ 1000000000000000) :
    Calls Try.prog 84 #[.pointer (some ⟨gf, 0, none⟩), .pointer (some ⟨g, j, none⟩)] w fun e w' =>
      ((Pk.takeList s a).2.2 = 0 ∧ e = .returned (.tuple #[]) ∧ ∃ v, Took w w' g t j arr v gf s (Pk.takeList s a).2.1 ∧ Kd.R Kd.string 9 w' w.heap.size (fun _ => True) v (Pk.takeList s a).1) ∨
      ((Pk.takeList s a).2.2 ≠ 0 ∧ e = .panicked broken ∧ But2 w w' g gf) := by
  have h0 := hf.cell0
  have h1 := hf.cell1
  have h2 := hf.cell2
  have hp := row_cell hg hj
  have hpz := free_of_row (j := j) hg
  have hz2 := hf.free 2
  have htake : pack_TakeList.f 4100 s a = some ((Pk.takeList s a).1, (Pk.takeList s a).2.1, (Pk.takeList s a).2.2) := PkH.pack_takeList s hs a 4100 (Nat.le_refl _)
  have HT := Aside0.mk htake
  have HF := Aside0.mk hf
  have HG := Aside0.mk hg
  clear htake hf hg
  generalize (Pk.takeList s a).1 = n at *
  generalize (Pk.takeList s a).2.1 = nx at *
  generalize (Pk.takeList s a).2.2 = er at *
  have HE : Aside0 (er = 0 ∨ er ≠ 0) := ⟨by omega⟩
  go_enter Try.func84, Try.ntmps84
  go_wp2_with fail
  go_region_held3 (fun w' => w'.cell? ⟨gf, 1, none⟩ = some (.string s) ∧ w'.cell? ⟨gf, 2, none⟩ = some (.int .i64 a))
    (first | exact ⟨h1, h2⟩ | exact ⟨(hb.cell (World.block_lt_of_cell? w _ h1)).trans h1, (hb.cell (World.block_lt_of_cell? w _ h2)).trans h2⟩ | go_keep)
    (first | (go_at_call 93; refine (pack_TakeList.calls 4100 _ _ _ _ _ _ HT.out).mono ?_; rintro e w1 ⟨v0_, rfl, hr, hb⟩; replace hb : Below w.heap.size w w1 := ⟨hb.os, hb.tape, hb.output, hb.size, hb.block⟩; have HG1 := Aside0.mk (row_below hb HG.out); have HF1 := Aside0.mk (HF.out.below hb); have hp1 := cell_below hb hp; have hpz1 := free_of_row (j := j) HG1.out; have h21 := HF1.out.cell2; have hz21 := HF1.out.free 2; obtain ⟨A1, n1, c1, rfl⟩ := R_slot hr; have HR1 := Aside0.mk hr; clear hr))
  rcases HE.out with he | he
  · subst he
    go_wp2_with (go_at_call 90; refine (must_yes _).mono ?_; rintro e w2 ⟨rfl, rfl⟩)
    go_end0
    exact ⟨rfl, _, Took.of hne2 HG1.out HF1.out hb, R_two HR1.out (Array.getElem?_eq_some_iff.1 HG.out).1 HF.out.lt _ _⟩
  · have hE : (er == 0) = false := by simpa using he
    have HEE := Aside0.mk he
    clear he
    go_wp2_with (go_at_call 90; refine (must_no _).mono ?_; rintro e w2 ⟨rfl, rfl⟩)
    exact ⟨rfl, Or.inr ⟨HEE.out, rfl, But2.of_below hb⟩⟩

/-- What a call of num, text, list leaves behind that writes: the form has grown; its block alone has changed. -/
structure Put (w w' : World) (gf : Nat) (s : ByteArray) : Prop where
  form : FormAt w' gf true s 0
  but : But2 w w' gf gf
theorem Put.of {w w2 : World} {gf : Nat} {s s' : ByteArray} (hf : FormAt w2 gf true s 0) (hb : Below w.heap.size w w2) : Put w (w2.setCell ⟨gf, 1, none⟩ (.string s')) gf s' := by
  refine ⟨?_, ⟨hb.os, hb.tape, hb.output, ?_, ?_⟩⟩
  · unfold FormAt at *
    rw [row_setCell hf]
    rfl
  · show _ ≤ (w2.setCell _ _).heap.size
    simpa [World.setCell] using hb.size
  · intro k hk h1 _
    rw [Below.heap_setCell _ _ _ _ h1]
    exact hb.block k hk

set_option maxHeartbeats 2000000 in
set_option maxRecDepth 100000 in
theorem num_write (w : World) (p : Addr) (n : Int) (gf : Nat) (s : ByteArray) (hp : w.cell? p = some (.int .i64 n)) (hf : FormAt w gf true s 0) (hn0 : 0 ≤ n) (hn1 : n ≤ 1125899906842624) (hlen : s.size + (⟨(Pk.enc n.toNat).toArray⟩ : ByteArray).size ≤ 140737488355328) :
    Calls Try.prog 83 #[.pointer (some ⟨gf, 0, none⟩), .pointer (some p)] w fun e w' => e = .returned (.tuple #[]) ∧ Put w w' gf (s ++ (⟨(Pk.enc n.toNat).toArray⟩ : ByteArray)) := by
  have h0 := hf.cell0
  have h1 := hf.cell1
  have hz1 := hf.free 1
  have hnum : pack_Num.f 20 n = some ((⟨(Pk.enc n.toNat).toArray⟩ : ByteArray), 0) := by rw [PkH.pack_num n 20 (Nat.le_refl _), Pk.num_ok hn0 hn1]
  have HT := Aside0.mk hnum
  clear hnum hn0 hn1
  have HF := Aside0.mk hf
  clear hf
  generalize (⟨(Pk.enc n.toNat).toArray⟩ : ByteArray) = x at *
  go_enter Try.func83, Try.ntmps83
  go_wp2_with (first | (go_at_call 89; refine (pack_Num.calls 20 _ _ _ _ HT.out).mono ?_; rintro e w1 ⟨rfl, hb⟩; replace hb : Below w.heap.size w w1 := ⟨hb.os, hb.tape, hb.output, hb.size, hb.block⟩; have HF1 := Aside0.mk (HF.out.below hb); have h11 := HF1.out.cell1; have hz11 := HF1.out.free 1) | (go_at_call 90; refine (must_yes _).mono ?_; rintro e w2 ⟨rfl, rfl⟩))
  go_returns
  exact ⟨rfl, Put.of HF1.out hb⟩

set_option maxHeartbeats 2000000 in
set_option maxRecDepth 100000 in
theorem list_write (w : World) (p : Addr) (A : Option Addr) (c : Nat) (l : List ByteArray) (gf : Nat) (s : ByteArray) (hp : w.cell? p = some (.slice A l.length c)) (hf : FormAt w gf true s 0) (hr : Kd.C Kd.string w A l.length l) (hc : l.length ≤ c) (hl : l.length ≤ 4000) (ht : ∀ t ∈ l, t.size ≤ 2000) (hlen : s.size + (⟨(Pk.whole l).toArray⟩ : ByteArray).size ≤ 140737488355328) :
    Calls Try.prog 84 #[.pointer (some ⟨gf, 0, none⟩), .pointer (some p)] w fun e w' => e = .returned (.tuple #[]) ∧ Put w w' gf (s ++ (⟨(Pk.whole l).toArray⟩ : ByteArray)) := by
  have h0 := hf.cell0
  have h1 := hf.cell1
  have hz1 := hf.free 1
  have hnum : pack_List.f 4100 l = some ((⟨(Pk.whole l).toArray⟩ : ByteArray), 0) := by rw [PkH.pack_list l 4100 (Nat.le_refl _), Pk.list_ok hl ht]
  have HT := Aside0.mk hnum
  have HR := Aside0.mk hr
  have HC := Aside0.mk hc
  clear hnum ht hl hr hc
  have HF := Aside0.mk hf
  clear hf
  generalize (⟨(Pk.whole l).toArray⟩ : ByteArray) = x at *
  go_enter Try.func84, Try.ntmps84
  go_wp2_with (first | (go_at_call 92; refine (pack_List.calls 4100 _ _ _ _ _ _ HR.out HC.out HT.out).mono ?_; rintro e w1 ⟨rfl, hb⟩; replace hb : Below w.heap.size w w1 := ⟨hb.os, hb.tape, hb.output, hb.size, hb.block⟩; have HF1 := Aside0.mk (HF.out.below hb); have h11 := HF1.out.cell1; have hz11 := HF1.out.free 1) | (go_at_call 90; refine (must_yes _).mono ?_; rintro e w2 ⟨rfl, rfl⟩))
  go_returns
  exact ⟨rfl, Put.of HF1.out hb⟩
end Go.Proofs.Ytahonoeiamjgbaa.CdForm

/- The key (inst, step) of a ledger's steps. -/
namespace Go.Proofs.Ytahonoeiamjgbaa.LgKeyP
open Go.Maps

theorem laid : laidOutB Try.prog = true := by kernel_rfl
set_option maxRecDepth 100000 in
theorem lawP : Keyed Try.prog 65 := Keyed.of_law (deep_law_laid laid (m := 3) (by omega) (by decide +kernel) (by kernel_rfl) (by kernel_rfl))
theorem keyP {i s : Int} (hi : (Lit.int .i64 i).wf = true) (hs : (Lit.int .i64 s).wf = true) : keyOf Try.prog 65 (.agg #[.int .i64 i, .int .i64 s]) = some (.string (keyBytes [.int .i64 i, .int .i64 s])) := by
  have hk : Try.prog.keyType 65 = true := by kernel_rfl
  unfold keyOf
  rw [Try.underlying65]
  have hf : Value.formed Try.prog 65 (.agg #[.int .i64 i, .int .i64 s]) = true := by kernel_rfl
  have h1 : Try.prog.cellsOf 3 = 1 := by kernel_rfl
  have h2 : Try.prog.cellsOf 65 = 2 := by kernel_rfl
  have h0 : 0 < Try.prog.types.size := by decide +kernel
  obtain ⟨n, hn⟩ : ∃ n, Try.prog.types.size + 1 = n + 1 + 1 := ⟨Try.prog.types.size - 1, by omega⟩
  simp only [hk, Bool.true_and, hf, if_true, hn]
  simp [Program.keyLits, Try.underlying65, Try.underlying3, h1, h2, Value.cells, hi, hs]
theorem litsP {i s : Int} (hi : (Lit.int .i64 i).wf = true) (hs : (Lit.int .i64 s).wf = true) (n : Nat) : Try.prog.keyLits (n + 1 + 1) 65 [.int .i64 i, .int .i64 s] = some [.int .i64 i, .int .i64 s] := by
  have h1 : Try.prog.cellsOf 3 = 1 := by kernel_rfl
  have h2 : Try.prog.cellsOf 65 = 2 := by kernel_rfl
  simp [Program.keyLits, Try.underlying65, Try.underlying3, h1, h2, hi, hs]
theorem keyP_inj {i s i' s' : Int} (hi : (Lit.int .i64 i).wf = true) (hs : (Lit.int .i64 s).wf = true) (hi' : (Lit.int .i64 i').wf = true) (hs' : (Lit.int .i64 s').wf = true)
    (h : keyBytes [.int .i64 i, .int .i64 s] = keyBytes [.int .i64 i', .int .i64 s']) : i = i' ∧ s = s' := by
  have := keyLits_inj (litsP hi hs 0) (litsP hi' hs' 0) h
  simpa using this
end Go.Proofs.Ytahonoeiamjgbaa.LgKeyP

/- locks: the walks, by hand. -/
namespace Go.Proofs.Ytahonoeiamjgbaa.LgLocks
open Go.RowKit Go.IntWalk Go.Maps Go.Proofs.YtahonoeiamjgbaaW.PrintWords Go.Proofs.Ytahonoeiamjgbaa.LgMaps Go.Proofs.Ytahonoeiamjgbaa.CdForm

theorem lawS : Keyed Try.prog 9 := string_keyed Try.underlying9
theorem zeroI (w : World) : (zeroValue 3).run Try.prog w = .ok (.int .i64 0) w := by kernel_rfl
def keyL (s : ByteArray) : Lit := .string s.data.toList
theorem keyS {s : ByteArray} (h : s.size ≤ maxLen) : keyOf Try.prog 9 (.string s) = some (keyL s) := Go.WideMaps.keyOf_string_mk Try.underlying9 h

set_option maxRecDepth 100000 in
theorem holder_calls (w : World) (bl bh n : Nat) (D : DataW Value) (key : ByteArray) (hl : w.heap[bl]? = some (.cells #[.map (some bh)] 88 (0, 0))) (hm : w.ownsMap Try.prog 9 raw bh n D) (hk : key.size ≤ maxLen) :
    Calls Try.prog 30 #[.pointer (some ⟨bl, 0, none⟩), .string key] w fun e w' => e = .returned (val D (keyL key) (.int .i64 0)) ∧ w' = w := by
  have hlook := mlook hm lawS Try.underlying86 (zeroI w) (keyS hk)
  have hc0 : w.cell? ⟨bl, 0, none⟩ = some (.map (some bh)) := row_cell hl rfl
  go_enter Try.func30, Try.ntmps30
  go_wp2
  go_returns
  exact ⟨rfl, rfl⟩
end Go.Proofs.Ytahonoeiamjgbaa.LgLocks

/- The steps along an item's fields: one read, or written, behind the other. -/
namespace Go.Proofs.Ytahonoeiamjgbaa.CdForm
open Go.RowKit Go.IntWalk Go.Proofs.Ytahonoeiamjgbaa.G Go.Proofs.YtahonoeiamjgbaaW.PrintWords Go.Proofs.YtahonoeiamjgbaaW.PrintLast Go.Proofs.YtahonoeiamjgbaaW.PrintMore

/-- An item (block g) is being read out of a form (block gf), since the world w0. -/
structure St (w0 w : World) (g t : Nat) (arr : Array Value) (gf : Nat) (s : ByteArray) (a : Int) : Prop where
  row : w.heap[g]? = some (.cells arr t (0, 0))
  form : FormAt w gf false s a
  but : But2 w0 w g gf

theorem St.drew {w0 w : World} {g t : Nat} {arr : Array Value} {gf : Nat} {s : ByteArray} {a : Int} (h : St w0 w g t arr gf s a) : St w0 w.drew g t arr gf s a :=
  ⟨h.row, h.form, ⟨h.but.os, h.but.tape, h.but.output, h.but.size, h.but.block⟩⟩
theorem But2.glt {w w1 : World} {g gf : Nat} (h : But2 w w1 g gf) : w.heap.size ≤ w1.heap.size := h.size

theorem num_step (w0 w : World) (g t j : Nat) (arr : Array Value) (v0 : Int) (gf : Nat) (s : ByteArray) (a : Int) (h : St w0 w g t arr gf s a) (hj : arr[j]? = some (.int .i64 v0)) (hne : g ≠ gf) (hs : s.size ≤ 1000000000000000) :
    Calls Try.prog 83 #[.pointer (some ⟨gf, 0, none⟩), .pointer (some ⟨g, j, none⟩)] w fun e w' =>
      (∃ n nx, Pk.takeNum s a = (n, nx, 0) ∧ e = .returned (.tuple #[]) ∧ St w0 w' g t (arr.setIfInBounds j (.int .i64 n)) gf s nx) ∨
      ((Pk.takeNum s a).2.2 ≠ 0 ∧ e = .panicked broken ∧ But2 w0 w' g gf) := by
  refine (num_read w g t j arr v0 gf s a h.row hj hne h.form hs).mono ?_
  rintro e w' (⟨he, rfl, ht⟩ | ⟨he, rfl, hb⟩)
  · exact Or.inl ⟨_, _, Prod.ext rfl (Prod.ext rfl he), rfl, ht.row, ht.form, h.but.trans ht.but⟩
  · exact Or.inr ⟨he, rfl, h.but.trans hb⟩
theorem list_step (w0 w : World) (g t j : Nat) (arr : Array Value) (A0 : Option Addr) (n0 c0 : Nat) (gf : Nat) (s : ByteArray) (a : Int) (h : St w0 w g t arr gf s a) (hj : arr[j]? = some (.slice A0 n0 c0)) (hne : g ≠ gf) (hs : s.size ≤ 1000000000000000) :
    Calls Try.prog 84 #[.pointer (some ⟨gf, 0, none⟩), .pointer (some ⟨g, j, none⟩)] w fun e w' =>
      (∃ l nx v, Pk.takeList s a = (l, nx, 0) ∧ e = .returned (.tuple #[]) ∧ St w0 w' g t (arr.setIfInBounds j v) gf s nx ∧ Kd.R Kd.string 9 w' w0.heap.size (fun _ => True) v l) ∨
      ((Pk.takeList s a).2.2 ≠ 0 ∧ e = .panicked broken ∧ But2 w0 w' g gf) := by
  refine (list_read w g t j arr A0 n0 c0 gf s a h.row hj hne h.form hs).mono ?_
  rintro e w' (⟨he, rfl, v, ht, hr⟩ | ⟨he, rfl, hb⟩)
  · exact Or.inl ⟨_, _, v, Prod.ext rfl (Prod.ext rfl he), rfl, ⟨ht.row, ht.form, h.but.trans ht.but⟩, Kd.R_lower hr h.but.size⟩
  · exact Or.inr ⟨he, rfl, h.but.trans hb⟩

/-- The bytes of a number. -/
abbrev en (n : Int) : List UInt8 := Pk.enc n.toNat

/-- A form (block gf) has been written on, since the world w0: it holds L; the blocks of w0 are as they were. -/
def Wr (w0 w : World) (gf : Nat) (L : List UInt8) (k : Nat) : Prop :=
  ∃ s : ByteArray, FormAt w gf true s 0 ∧ s.data.toList = L ∧ s.size ≤ k * 10000000 ∧ w0.heap.size ≤ gf ∧ Below w0.heap.size w0 w
theorem Wr.more {w0 w : World} {gf : Nat} {L : List UInt8} {k k' : Nat} (h : Wr w0 w gf L k) (hk : k ≤ k') : Wr w0 w gf L k' := by
  obtain ⟨s, h1, h2, h3, h4⟩ := h
  exact ⟨s, h1, h2, Nat.le_trans h3 (Nat.mul_le_mul_right _ hk), h4⟩
theorem Wr.cell {w0 w : World} {gf : Nat} {L : List UInt8} {k : Nat} (h : Wr w0 w gf L k) {g t j : Nat} {arr : Array Value} {v : Value} (hg : w0.heap[g]? = some (.cells arr t (0, 0))) (hj : arr[j]? = some v) : w.cell? ⟨g, j, none⟩ = some v := by
  obtain ⟨s, h1, h2, h3, h4, h5⟩ := h
  exact row_cell (row_below h5 hg) hj
theorem Wr.put {w0 w w' : World} {gf : Nat} {s x : ByteArray} {k : Nat} (h3 : s.size ≤ k * 10000000) (h4 : w0.heap.size ≤ gf) (h5 : Below w0.heap.size w0 w) (hx : x.size ≤ 10000000) (hp : Put w w' gf (s ++ x)) :
    Wr w0 w' gf (s.data.toList ++ x.data.toList) (k + 1) := by
  have ha : (s ++ x).data.toList = s.data.toList ++ x.data.toList := by simp [ByteArray.data_append]
  have hb : (s ++ x).size ≤ (k + 1) * 10000000 := by
    have := ByteArray.size_append (a := s) (b := x)
    omega
  refine ⟨s ++ x, hp.form, ha, hb, h4, ?_⟩
  exact ⟨hp.but.os.trans h5.os, hp.but.tape.trans h5.tape, hp.but.output.trans h5.output, Nat.le_trans h5.size hp.but.size, fun k hk => (hp.but.block k (Nat.lt_of_lt_of_le hk h5.size) (by omega) (by omega)).trans (h5.block k hk)⟩

theorem num_put (w0 w : World) (gf : Nat) (L : List UInt8) (k : Nat) (h : Wr w0 w gf L k) (g t j : Nat) (arr : Array Value) (n : Int) (hg : w0.heap[g]? = some (.cells arr t (0, 0))) (hj : arr[j]? = some (.int .i64 n))
    (hn : 0 ≤ n ∧ n ≤ 1125899906842624) (hk : k ≤ 1000) :
    Calls Try.prog 83 #[.pointer (some ⟨gf, 0, none⟩), .pointer (some ⟨g, j, none⟩)] w fun e w' => e = .returned (.tuple #[]) ∧ Wr w0 w' gf (L ++ en n) (k + 1) := by
  have hc := h.cell hg hj
  obtain ⟨s, h1, rfl, h3, h4, h5⟩ := h
  have hl := Pk.enc_len8 (n := n.toNat) (by omega)
  have hx : (⟨(Pk.enc n.toNat).toArray⟩ : ByteArray).size ≤ 8 := by
    show (Pk.enc n.toNat).toArray.size ≤ 8
    simpa using hl
  refine (num_write w ⟨g, j, none⟩ n gf s hc h1 hn.1 hn.2 (by omega)).mono ?_
  rintro e w' ⟨rfl, hp⟩
  exact ⟨rfl, Wr.put h3 h4 h5 (by omega) hp⟩
theorem items_len : ∀ (l : List ByteArray), (∀ t ∈ l, t.size ≤ 2000) → (Pk.items l).length ≤ 2008 * l.length
  | [], _ => by simp [Pk.items]
  | t :: l, h => by
    have := items_len l (fun x hx => h x (List.mem_cons_of_mem _ hx))
    have := Pk.item_len (s := t) (h t List.mem_cons_self)
    rw [Pk.items_cons, List.length_append, List.length_cons]
    omega
theorem list_put (w0 w : World) (gf : Nat) (L : List UInt8) (k : Nat) (h : Wr w0 w gf L k) (g t j : Nat) (arr : Array Value) (A : Option Addr) (c : Nat) (l : List ByteArray) (hg : w0.heap[g]? = some (.cells arr t (0, 0))) (hj : arr[j]? = some (.slice A l.length c))
    (hr : Kd.C Kd.string w0 A l.length l) (hc : l.length ≤ c) (hl : l.length ≤ 4000) (ht : ∀ t ∈ l, t.size ≤ 2000) (hk : k ≤ 1000) :
    Calls Try.prog 84 #[.pointer (some ⟨gf, 0, none⟩), .pointer (some ⟨g, j, none⟩)] w fun e w' => e = .returned (.tuple #[]) ∧ Wr w0 w' gf (L ++ Pk.whole l) (k + 1) := by
  have hcell := h.cell hg hj
  obtain ⟨s, h1, rfl, h3, h4, h5⟩ := h
  have hi := items_len l ht
  have he := Pk.enc_len8 (n := l.length) (by omega)
  have hx : (⟨(Pk.whole l).toArray⟩ : ByteArray).size ≤ 10000000 := by
    show (Pk.whole l).toArray.size ≤ 10000000
    rw [List.size_toArray, Pk.whole, List.length_append]
    omega
  refine (list_write w ⟨g, j, none⟩ A c l gf s hcell h1 (Kd.C_below hr h5) hc hl ht (by omega)).mono ?_
  rintro e w' ⟨rfl, hp⟩
  exact ⟨rfl, Wr.put h3 h4 h5 hx hp⟩

/-! Reading, in plain words: one field behind the other. -/
def num {α : Type} (s : ByteArray) (a : Int) (k : Int → Int → Option α) : Option α := if (Pk.takeNum s a).2.2 = 0 then k (Pk.takeNum s a).1 (Pk.takeNum s a).2.1 else none
def text {α : Type} (s : ByteArray) (a : Int) (k : ByteArray → Int → Option α) : Option α := if (Pk.takeText s a).2.2 = 0 then k (Pk.takeText s a).1 (Pk.takeText s a).2.1 else none
def list {α : Type} (s : ByteArray) (a : Int) (k : List ByteArray → Int → Option α) : Option α := if (Pk.takeList s a).2.2 = 0 then k (Pk.takeList s a).1 (Pk.takeList s a).2.1 else none
theorem num_ok {α : Type} {s : ByteArray} {a n x : Int} (h : Pk.takeNum s a = (n, x, 0)) (k : Int → Int → Option α) : num s a k = k n x := by rw [num, h, if_pos rfl]
theorem num_no {α : Type} {s : ByteArray} {a : Int} (h : (Pk.takeNum s a).2.2 ≠ 0) (k : Int → Int → Option α) : num s a k = none := by rw [num, if_neg h]
theorem text_ok {α : Type} {s : ByteArray} {a x : Int} {n : ByteArray} (h : Pk.takeText s a = (n, x, 0)) (k : ByteArray → Int → Option α) : text s a k = k n x := by rw [text, h, if_pos rfl]
theorem text_no {α : Type} {s : ByteArray} {a : Int} (h : (Pk.takeText s a).2.2 ≠ 0) (k : ByteArray → Int → Option α) : text s a k = none := by rw [text, if_neg h]
theorem list_ok {α : Type} {s : ByteArray} {a x : Int} {n : List ByteArray} (h : Pk.takeList s a = (n, x, 0)) (k : List ByteArray → Int → Option α) : list s a k = k n x := by rw [list, h, if_pos rfl]
theorem list_no {α : Type} {s : ByteArray} {a : Int} (h : (Pk.takeList s a).2.2 ≠ 0) (k : List ByteArray → Int → Option α) : list s a k = none := by rw [list, if_neg h]
end Go.Proofs.Ytahonoeiamjgbaa.CdForm

/- codec.areKeys: the walk, by hand. -/
namespace Go.Proofs.Ytahonoeiamjgbaa.CdKeys
open Go.RowKit Go.IntWalk Go.Proofs.Ytahonoeiamjgbaa.G Go.Proofs.YtahonoeiamjgbaaW.PrintWords Go.Proofs.YtahonoeiamjgbaaW.PrintLast Go.Proofs.YtahonoeiamjgbaaW.PrintMore Go.Proofs.Ytahonoeiamjgbaa.Tabs
variable [Tab]

/-- Are these keys, behind one (or none)? -/
def goK : Option ByteArray → List ByteArray → Bool
  | _, [] => true
  | none, k :: l => Nm.isName k && goK (some k) l
  | some p, k :: l => Nm.isName k && (decide (Tab.cmp p k < 0) && goK (some k) l)
def areKeys (l : List ByteArray) : Bool := decide (l.length ≤ 2) && goK none l

def prev (l : List ByteArray) (i : Nat) : Option ByteArray := if i = 0 then none else l[i - 1]?

set_option maxHeartbeats 1000000 in
theorem keys_calls (A : Option Addr) (c : Nat) (l : List ByteArray) (w : World) (hr : Kd.C Kd.string w A l.length l) (hs : ∀ t ∈ l, t.size ≤ 9000000000000000000) (hT : Tab.At w) :
    Calls Try.prog 88 #[.slice A l.length c] w fun e w' => e = .returned (.bool (areKeys l)) ∧ Below w.heap.size w w' := by
  have HR := Aside0.mk hr
  have HS := Aside0.mk hs
  have HT := Aside0.mk hT
  have HB := Aside0.mk (Below.refl w.heap.size w)
  clear hr hs hT
  by_cases h2 : 2 < l.length
  · have hk : areKeys l = false := by simp [areKeys]; omega
    have HK := Aside0.mk hk
    have hd : decide (2 < (l.length : Int)) = true := decide_eq_true (by omega)
    clear hk
    go_enter Try.func88, Try.ntmps88
    go_wp2
    go_ret
    rw [HK.out]
    exact ⟨rfl, HB.out⟩
  · have hk : areKeys l = goK none l := by simp [areKeys]; omega
    have HK := Aside0.mk hk
    have hd : decide (2 < (l.length : Int)) = false := decide_eq_false (by omega)
    clear hk
    go_enter Try.func88, Try.ntmps88
    go_wp2
    go_loopw [10] (fun v10 wr => ∃ i : Nat, i ≤ l.length ∧ v10 = .int .i64 (i : Int) ∧ areKeys l = goK (prev l i) (l.drop i) ∧ (∀ p, prev l i = some p → Nm.AllName p) ∧ Below w.heap.size w wr) (fun v10 _ => l.length - (intOf v10).toNat)
    case atStart => exact ⟨0, Nat.zero_le _, rfl, HK.out, by simp [prev], HB.out⟩
    case round =>
      obtain ⟨i, hi, rfl, hg, hall, hB⟩ := hrel
      have HG := Aside0.mk hg
      have HA := Aside0.mk hall
      replace HB := Aside0.mk hB
      clear hg hall hB
      by_cases hlt : i < l.length
      · obtain ⟨ad, rfl, hcell0⟩ := Kd.at_string HR.out (i : Int) (by omega) (by omega)
        have hx : rdOf ByteArray.empty l (i : Int) = l[i] := by unfold rdOf; simp [List.getD, List.getElem?_eq_getElem hlt]
        rw [hx, Int.toNat_natCast] at hcell0
        have hcell := (HB.out.cell (World.block_lt_of_cell? w _ hcell0)).trans hcell0
        have hsz := HS.out l[i] (List.getElem_mem hlt)
        have hdrop : l.drop i = l[i] :: l.drop (i + 1) := List.drop_eq_getElem_cons hlt
        have hprev : prev l (i + 1) = some l[i] := by unfold prev; rw [if_neg (by omega)]; simp [List.getElem?_eq_getElem hlt]
        rw [hdrop] at HG
        have HP := Aside0.mk hprev
        have HZ := Aside0.mk hsz
        clear hx hcell0 hdrop hprev hsz
        have hd1 : decide (i < l.length) = true := decide_eq_true hlt
        have hd2 : decide ((i : Int) < (l.length : Int)) = true := decide_eq_true (by omega)
        have hi01 : i = 0 ∨ i = 1 := by omega
        have hnm := @Nm.isName_all l[i]
        have HNM := Aside0.mk hnm
        clear hnm
        rcases hi01 with rfl | rfl
        · have hp0 : prev l 0 = none := rfl
          rw [hp0, goK] at HG
          generalize l[0] = k at *
          clear hp0
          replace hcell : wr.cell? ad = some (.string k) := hcell
          cases hn : Nm.isName k
          · have hf : areKeys l = false := by rw [HG.out, hn]; rfl
            have HF := Aside0.mk hf
            clear hf
            go_wp2_with (first | (go_at_call 40; refine (NameWalk.is_calls _ _ HZ.out).mono ?_; rw [hn]; rintro e w1 ⟨rfl, hb1⟩))
            go_ret
            rw [HF.out]
            exact ⟨rfl, HB.out.trans (hb1.mono HB.out.size)⟩
          · have hf : areKeys l = goK (some k) (l.drop 1) := by rw [HG.out, hn]; rfl
            have HF := Aside0.mk hf
            have HAN := Aside0.mk (HNM.out hn)
            clear hf
            go_wp2_with (first | (go_at_call 40; refine (NameWalk.is_calls _ _ HZ.out).mono ?_; rw [hn]; rintro e w1 ⟨rfl, hb1⟩))
            go_roundw
            case rel => exact ⟨1, hlt, by go_num, by rw [HP.out]; exact HF.out, by rw [HP.out]; rintro p ⟨rfl⟩; exact HAN.out, HB.out.trans (hb1.mono HB.out.size)⟩
            case measure => simp [intOf]; omega
        · have hl0 : 0 < l.length := by omega
          have hp1 : prev l 1 = some l[0] := by unfold prev; rw [if_neg (by omega)]; simp [List.getElem?_eq_getElem hl0]
          obtain ⟨ad', he', hcell1⟩ := Kd.at_string HR.out ((0 : Nat) : Int) (by omega) (by omega)
          injection he' with he'
          subst he'
          have hx1 : rdOf ByteArray.empty l ((0 : Nat) : Int) = l[0] := by unfold rdOf; simp [List.getD, List.getElem?_eq_getElem hl0]
          rw [hx1, Int.toNat_natCast] at hcell1
          have hcell2 := (HB.out.cell (World.block_lt_of_cell? w _ hcell1)).trans hcell1
          have HZ1 := Aside0.mk (HS.out l[0] (List.getElem_mem hl0))
          have HAP := Aside0.mk (HA.out _ hp1)
          rw [hp1, goK] at HG
          clear hx1 hcell1 hp1
          generalize l[0] = p at *
          generalize l[1] = k at *
          replace hcell : wr.cell? ⟨ad.block, ad.off + 1, none⟩ = some (.string k) := hcell
          replace hcell2 : wr.cell? ad = some (.string p) := hcell2
          cases hn : Nm.isName k
          · have hf : areKeys l = false := by rw [HG.out, hn]; rfl
            have HF := Aside0.mk hf
            clear hf
            go_wp2_with (first | (go_at_call 40; refine (NameWalk.is_calls _ _ HZ.out).mono ?_; rw [hn]; rintro e w1 ⟨rfl, hb1⟩))
            go_ret
            rw [HF.out]
            exact ⟨rfl, HB.out.trans (hb1.mono HB.out.size)⟩
          · have HAN := Aside0.mk (HNM.out hn)
            have HTC : Aside0 (∀ W, Tab.At W → Calls Try.prog 94 #[.string p, .string k] W fun e w' => e = .returned (.int .i64 (Tab.cmp p k)) ∧ Below W.heap.size W w') := ⟨fun W hW => Tab.calls p k W hW HAP.out HAN.out HZ1.out HZ.out⟩
            rw [hn, Bool.true_and] at HG
            generalize Tab.cmp p k = x at *
            by_cases hx : x < 0
            · have hf : areKeys l = goK (some k) (l.drop 2) := by rw [HG.out, decide_eq_true hx, Bool.true_and]
              have HF := Aside0.mk hf
              have hxx : decide (0 ≤ x) = false := decide_eq_false (by omega)
              clear hf
              go_wp2_with (first | (go_at_call 40; refine (NameWalk.is_calls _ _ HZ.out).mono ?_; rw [hn]; rintro e w1 ⟨rfl, hb1⟩; have hcell3 := (hb1.cell (World.block_lt_of_cell? _ _ hcell2)).trans hcell2; have hcell4 := (hb1.cell (World.block_lt_of_cell? _ _ hcell)).trans hcell; have HB1 := Aside0.mk (HB.out.trans (hb1.mono HB.out.size))) | (go_at_call 94; refine (HTC.out _ (Tab.below HT.out HB1.out)).mono ?_; rintro e w2 ⟨rfl, hb2⟩))
              go_roundw
              case rel => exact ⟨2, hlt, by go_num, by rw [HP.out]; exact HF.out, by rw [HP.out]; rintro p ⟨rfl⟩; exact HAN.out, HB1.out.trans (hb2.mono HB1.out.size)⟩
              case measure => simp [intOf]; omega
            · have hf : areKeys l = false := by rw [HG.out, decide_eq_false hx, Bool.false_and]
              have HF := Aside0.mk hf
              have hxx : decide (0 ≤ x) = true := decide_eq_true (by omega)
              clear hf
              go_wp2_with (first | (go_at_call 40; refine (NameWalk.is_calls _ _ HZ.out).mono ?_; rw [hn]; rintro e w1 ⟨rfl, hb1⟩; have hcell3 := (hb1.cell (World.block_lt_of_cell? _ _ hcell2)).trans hcell2; have hcell4 := (hb1.cell (World.block_lt_of_cell? _ _ hcell)).trans hcell; have HB1 := Aside0.mk (HB.out.trans (hb1.mono HB.out.size))) | (go_at_call 94; refine (HTC.out _ (Tab.below HT.out HB1.out)).mono ?_; rintro e w2 ⟨rfl, hb2⟩))
              go_ret
              rw [HF.out]
              exact ⟨rfl, HB1.out.trans (hb2.mono HB1.out.size)⟩
      · have hi : i = l.length := by omega
        have hf : areKeys l = true := by rw [HG.out, hi, List.drop_length]; cases prev l l.length <;> rfl
        have HF := Aside0.mk hf
        have hd1 : decide (i < l.length) = false := decide_eq_false hlt
        have hd2 : decide ((i : Int) < (l.length : Int)) = false := decide_eq_false (by omega)
        clear hf hi
        go_wp2
        go_ret
        rw [HF.out]
        exact ⟨rfl, HB.out⟩
end Go.Proofs.Ytahonoeiamjgbaa.CdKeys
