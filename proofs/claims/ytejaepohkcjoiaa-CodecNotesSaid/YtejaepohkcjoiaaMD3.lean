/- Several texts in one, in build order: Cmp2, CdTabs, RefIs, CdRefNp, CdRefNa, CdRefNb, CdRefNc, CdRefN, CdRefNote, CdL5, RowCodecNotes. -/
import Derived.Test.YtejaepohkcjoiaaMD2
import Derived.KernelRfl
import Derived.Laws.Strings
import Derived.Test.YtejaepohkcjoiaaRows
import Derived.HandedShaped
import Derived.WalkKit
import Derived.ProofKit
import Derived.OpenShut
import Derived.ShutString
import Derived.ChangeOld
import Derived.Below
import Derived.SizedLaws
import Derived.Carry
/- name.Compare over tables of whatever content: the walk, by hand. -/
namespace Go.Proofs.Ytejaepohkcjoiaa.Cmp2
open Go.Proofs.Ytejaepohkcjoiaa.Nm (byte byte_lt byte_at)
open Go.RowKit Go.IntWalk Go.Proofs.YtejaepohkcjoiaaW.PrintWords Go.Proofs.YtejaepohkcjoiaaW.PrintMore Go.Proofs.Ytejaepohkcjoiaa.CmpWalk

/-- name.Compare, as the tables have it. -/
def cmpF (T : Utabs) : List Int → ByteArray → Int
  | [], b => if b.size = 0 then 0 else -1
  | x :: l, b => if b.size = 0 then 1 else if x < (decA T b).1 then -1 else if ((decA T b).1 : Int) < x then 1 else cmpF T l (b.extract (decA T b).2 b.size)

theorem empty_size {s : ByteArray} (h : s.size = 0) : s.toList.isEmpty = true := by
  rw [ByteArray.toList_eq]
  have : s.data.toList.length = s.size := by simp
  rw [h] at this
  rw [List.eq_nil_of_length_eq_zero this]
  rfl
theorem some_size {s : ByteArray} (h : ¬ s.size = 0) : s.toList.isEmpty = false := by
  rw [ByteArray.toList_eq]
  cases hc : s.data.toList with
  | nil =>
    have : s.data.toList.length = s.size := by simp
    rw [hc] at this
    simp at this
    omega
  | cons a b => rfl

theorem tabs_below {T : Utabs} {w w1 : World} (h : TabsRaw T w) (hb : Below w.heap.size w w1) : TabsRaw T w1 :=
  ⟨fun i hi => (hb.cell (World.block_lt_of_cell? w _ (h.first i hi))).trans (h.first i hi), fun i hi => (hb.cell (World.block_lt_of_cell? w _ (h.lo i hi))).trans (h.lo i hi), fun i hi => (hb.cell (World.block_lt_of_cell? w _ (h.hi i hi))).trans (h.hi i hi)⟩

/-- What holds at the loop's head. -/
def Head (T : Utabs) (w : World) (a b : ByteArray) (v1 : Value) (wr : World) : Prop :=
  ∃ (pos : Nat) (c : ByteArray), v1 = .string c ∧ wr.heap[w.heap.size]? = some (.stringIter a pos) ∧ Below w.heap.size w wr ∧ c.size ≤ b.size ∧ Nm.AllName c ∧ (∀ r ∈ Nm.from_ a pos, Nm.nameRune r = true) ∧ cmpF T (Nm.runes a) b = cmpF T (Nm.from_ a pos) c

set_option maxHeartbeats 2000000 in
set_option maxRecDepth 100000 in
theorem cmp_calls (T : Utabs) (a b : ByteArray) (w : World) (hT : TabsRaw T w) (ha : Nm.AllName a) (hb : Nm.AllName b) (hsb : b.size ≤ 9000000000000000000) :
    Calls Try.prog 88 #[.string a, .string b] w fun e w' => e = .returned (.int .i64 (cmpF T (Nm.runes a) b)) ∧ Below w.heap.size w w' := by
  have HT := Aside0.mk hT
  have HA := Aside0.mk ha
  have HNB := Aside0.mk hb
  have HSB := Aside0.mk hsb
  clear hT ha hb hsb
  go_enter Try.func88, Try.ntmps88
  go_wp2
  go_loopw [1] (fun v1 wr => Head T w a b v1 wr) (fun _ wr => a.size - wr.iterPos w.heap.size)
  case atStart => exact ⟨0, b, rfl, World.iter_heap w a 0, (Below.refl _ _).alloc (Nat.le_refl _) _, Nat.le_refl _, HNB.out, HA.out, by rw [Nm.from_zero]⟩
  case round =>
    obtain ⟨pos, c, rfl, hit, hB, hsz, hn, hfr, hc⟩ := hrel
    have hpos0 := iterPos_of hit
    have HB := Aside0.mk hB
    have HC := Aside0.mk hc
    have HN := Aside0.mk hn
    have HFR := Aside0.mk hfr
    clear hfr
    have HIT := Aside0.mk hit
    clear hc hn hB
    by_cases hlt : pos < a.size
    · have hnext := fun ty => Lib.run_next_any_at (P := Try.prog) wr w.heap.size a pos ty hit hlt
      have hle := decode_le a pos
      have hposd := Nm.decode_pos a pos
      have hrun := Nm.from_step a pos hlt
      clear hit hpos0
      have hdn : Nm.nameRune ((Utf8.decode a pos).1 : Int) = true := by
        have hall : ∀ r ∈ Nm.from_ a pos, Nm.nameRune r = true := HFR.out
        exact hall _ (by rw [hrun]; exact List.mem_cons_self)
      have hrest : ∀ r ∈ Nm.from_ a (pos + (Utf8.decode a pos).2), Nm.nameRune r = true := by
        intro r hr
        exact HFR.out r (by rw [hrun]; exact List.mem_cons_of_mem _ hr)
      have HREST := Aside0.mk hrest
      clear hrest
      generalize (Utf8.decode a pos).1 = x at *
      generalize (Utf8.decode a pos).2 = d at *
      have hbelow : ∀ p, Below w.heap.size w (wr.iterAt w.heap.size a p) := fun p => Lib.below_iterAt HB.out (Nat.le_refl _) a p
      have HBW := Aside0.mk hbelow
      have hit2 := Lib.iterAt_heap wr w.heap.size a pos (pos + d) HIT.out
      have HIT2 := Aside0.mk hit2
      clear hbelow hit2
      by_cases hz : c.size = 0
      · have hz0 := empty_size hz
        have hfin : cmpF T (Nm.from_ a pos) c = 1 := by rw [hrun, cmpF, if_pos hz]
        have HF := Aside0.mk hfin
        clear hfin hrun hz
        go_wp2
        go_ret
        rw [HC.out, HF.out]
        exact ⟨rfl, HBW.out _⟩
      · have hz0 := some_size hz
        have hcp : 0 < c.size := by omega
        have h2 := first_two hcp HN.out
        have hbd := decA_bounds T c hcp h2
        have hstep := decA_name T hcp HN.out
        have HDEC := fun W (hW : TabsRaw T W) => dec_calls T c W hW hcp h2 (Nat.le_trans hsz HSB.out)
        have hfin : cmpF T (Nm.from_ a pos) c = if (x : Int) < (decA T c).1 then -1 else if ((decA T c).1 : Int) < (x : Int) then 1 else cmpF T (Nm.from_ a (pos + d)) (c.extract (decA T c).2 c.size) := by rw [hrun, cmpF, if_neg hz]
        have hext : (c.extract (decA T c).2 c.size).size ≤ b.size := by rw [ByteArray.size_extract]; omega
        have HF := Aside0.mk hfin
        have HST := Aside0.mk hstep
        have HEX := Aside0.mk hext
        clear hfin hrun hz h2 hstep hext
        generalize hy : (decA T c).1 = y at *
        generalize hq : (decA T c).2 = q at *
        clear hy hq
        by_cases hlt1 : (x : Int) < (y : Int)
        · have hl1 : decide (x < y) = true := decide_eq_true (by omega)
          go_wp2_with (go_at_call 93; refine (HDEC _ (tabs_below HT.out (HBW.out _))).mono ?_; rintro e w1 ⟨rfl, hb1⟩)
          go_ret
          rw [HC.out, HF.out, if_pos hlt1]
          exact ⟨rfl, (HBW.out _).trans (hb1.mono (HBW.out _).size)⟩
        · have hl1 : decide (x < y) = false := decide_eq_false (by omega)
          by_cases hlt2 : (y : Int) < (x : Int)
          · have hl2 : decide (y < x) = true := decide_eq_true (by omega)
            go_wp2_with (go_at_call 93; refine (HDEC _ (tabs_below HT.out (HBW.out _))).mono ?_; rintro e w1 ⟨rfl, hb1⟩)
            go_ret
            rw [HC.out, HF.out, if_neg (by omega), if_pos (by omega)]
            exact ⟨rfl, (HBW.out _).trans (hb1.mono (HBW.out _).size)⟩
          · have hl2 : decide (y < x) = false := decide_eq_false (by omega)
            have hxy : x = y := by omega
            have HXY := Aside0.mk hxy
            clear hxy
            go_wp2_with (go_at_call 93; refine (HDEC _ (tabs_below HT.out (HBW.out _))).mono ?_; rintro e w1 ⟨rfl, hb1⟩)
            have hkeep : w1.heap[w.heap.size]? = some (.stringIter a (pos + d)) := (hb1.block _ (Array.getElem?_eq_some_iff.1 HIT2.out).1).trans HIT2.out
            go_roundw
            case rel =>
              refine ⟨pos + d, c.extract q c.size, rfl, hkeep, (HBW.out _).trans (hb1.mono (HBW.out _).size), HEX.out, HST.out (by rw [← HXY.out]; exact hdn), HREST.out, ?_⟩
              rw [HC.out, HF.out, if_neg (by omega), if_neg (by omega)]
            case measure => rw [iterPos_of hkeep, iterPos_of HIT.out]; omega
    · have hnext := fun ty => Lib.run_next_end_at (P := Try.prog) wr w.heap.size a pos ty hit hlt
      have hend := Nm.from_end a pos (by omega)
      by_cases hz : c.size = 0
      · have hz0 := empty_size hz
        have hfin : cmpF T (Nm.from_ a pos) c = 0 := by rw [hend, cmpF, if_pos hz]
        have HF := Aside0.mk hfin
        clear hfin hend hz hit hpos0
        go_wp2
        go_ret
        rw [HC.out, HF.out]
        exact ⟨rfl, HB.out⟩
      · have hz0 := some_size hz
        have hfin : cmpF T (Nm.from_ a pos) c = -1 := by rw [hend, cmpF, if_neg hz]
        have HF := Aside0.mk hfin
        clear hfin hend hz hit hpos0
        go_wp2
        go_ret
        rw [HC.out, HF.out]
        exact ⟨rfl, HB.out⟩
end Go.Proofs.Ytejaepohkcjoiaa.Cmp2

/- The tables of unicode/utf8, of whatever content, off the shape of the world in which a row begins. -/
namespace Go.Proofs.Ytejaepohkcjoiaa.Tabs
open Go.RowKit Go.Proofs.Ytejaepohkcjoiaa.CmpWalk

set_option maxRecDepth 100000 in
theorem cells_u8 {w : World} {g t n : Nat} (h : w.ShapedOpen Try.prog) (hg : g < Try.prog.globals.size)
    (h0 : ((begin Try.prog (fun _ _ => 0) default).world.heap[g]?).bind Obj.row? = some (Array.replicate n (.int .u8 0), t)) (hb : Try.prog.buildable t = true)
    (hc : Try.prog.cellTypes Try.prog.depth t = some (List.replicate n 5)) (i : Nat) (hi : i < n) : ∃ m : Nat, m < 256 ∧ w.cell? ⟨g, i, none⟩ = some (.int .u8 m) := by
  obtain ⟨cs, hh, hs, hr⟩ := h.1 g _ t hg h0
  obtain ⟨ts, hts, _, hall⟩ := hr hb
  rw [hc] at hts
  cases hts
  have h1 : i < cs.size := by rw [hs]; simpa using hi
  obtain ⟨u, hu', hok⟩ := hall i cs[i] (by simp [h1])
  have : u = 5 := by
    have := List.mem_of_getElem? hu'
    exact List.eq_of_mem_replicate this
  subst this
  have hcell : w.cell? ⟨g, i, none⟩ = some cs[i] := by simp [World.cell?, hh, h1]
  rw [hcell]
  unfold Cell.ok at hok
  rw [Try.underlying5] at hok
  cases hv : cs[i] <;> rw [hv] at hok <;> simp at hok
  case int k' n =>
    obtain ⟨rfl, hn⟩ := hok
    have h2 : 0 ≤ n ∧ n < 256 := by
      have hn' : (0 : Int) ≤ n ∧ n ≤ 255 := hn
      omega
    refine ⟨n.toNat, by omega, ?_⟩
    congr 2
    omega

set_option maxRecDepth 100000 in
theorem tabs_of {w : World} (h : w.ShapedOpen Try.prog) : ∃ T : Utabs, TabsRaw T w := by
  have hf := cells_u8 (g := 0) (t := 133) (n := 256) h (by decide +kernel) (by kernel_rfl) (by kernel_rfl) (by kernel_rfl)
  have ha := cells_u8 (g := 1) (t := 136) (n := 32) h (by decide +kernel) (by kernel_rfl) (by kernel_rfl) (by kernel_rfl)
  refine ⟨⟨fun i => if h : i < 256 then (hf i h).choose else 0, fun i => if h : i * 2 < 32 then (ha (i * 2) h).choose else 0, fun i => if h : i * 2 + 1 < 32 then (ha (i * 2 + 1) h).choose else 0, ?_, ?_, ?_⟩, ?_, ?_, ?_⟩
  · intro i
    split
    · rename_i hlt; exact (hf i hlt).choose_spec.1
    · omega
  · intro i
    split
    · rename_i hlt; exact (ha _ hlt).choose_spec.1
    · omega
  · intro i
    split
    · rename_i hlt; exact (ha _ hlt).choose_spec.1
    · omega
  · intro i hi
    simp only [hi, dif_pos]
    exact (hf i hi).choose_spec.2
  · intro i hi
    have h2 : i * 2 < 32 := by omega
    simp only [h2, dif_pos]
    exact (ha _ h2).choose_spec.2
  · intro i hi
    have h2 : i * 2 + 1 < 32 := by omega
    simp only [h2, dif_pos]
    exact (ha _ h2).choose_spec.2

abbrev tabOf (T : Utabs) : Tab where
  cmp := fun a b => Cmp2.cmpF T (Nm.runes a) b
  At := TabsRaw T
  below := fun h hb => Cmp2.tabs_below h hb
  calls := fun a b w hT ha hb _ hsb => Cmp2.cmp_calls T a b w hT ha hb hsb
end Go.Proofs.Ytejaepohkcjoiaa.Tabs

/- The document's Is is the program's: runes by definition, and by the model's decoder. -/
namespace Go.Proofs.Ytejaepohkcjoiaa.RefIs
open Go.RowKit Go.IntWalk Go.Proofs.Ytejaepohkcjoiaa.G Go.Proofs.YtejaepohkcjoiaaW.PrintWords Go.Proofs.YtejaepohkcjoiaaW.PrintLast Go.Proofs.YtejaepohkcjoiaaW.PrintMore
open Go.Proofs.Ytejaepohkcjoiaa.Nm (byte byte_lt byte_at byte_get)

theorem bt_byte (s : ByteArray) (i : Nat) (h : i < s.size) : bt s (i : Int) = (byte s i : Int) := by
  unfold bt
  rw [dif_pos (by simpa using h)]
  exact_mod_cast congrArg (fun n : Nat => (n : Int)) (byte_at s i h)
theorem w64 (n : Nat) (h : n ≤ 1000000000000000000) : wrap64 (n : Int) = n := wrap64_in _ (by omega)

/-- The decoder over its bytes. -/
def decB (sz i : Nat) (b0 b1 b2 b3 : Nat) : Nat × Nat :=
  let cont (k b : Nat) : Bool := i + k < sz && b / 64 == 2
  if b0 < 0x80 then (b0, 1)
  else if b0 / 32 == 6 && cont 1 b1 then
    let c := (b0 % 32) * 64 + b1 % 64
    if c ≥ 0x80 then (c, 2) else (65533, 1)
  else if b0 / 16 == 14 && cont 1 b1 && cont 2 b2 then
    let c := (b0 % 16) * 4096 + (b1 % 64) * 64 + b2 % 64
    if c ≥ 0x800 && Utf8.valid c then (c, 3) else (65533, 1)
  else if b0 / 8 == 30 && cont 1 b1 && cont 2 b2 && cont 3 b3 then
    let c := (b0 % 8) * 262144 + (b1 % 64) * 4096 + (b2 % 64) * 64 + b3 % 64
    if c ≥ 0x10000 && Utf8.valid c then (c, 4) else (65533, 1)
  else (65533, 1)
theorem decode_eq (s : ByteArray) (i : Nat) : Utf8.decode s i = decB s.size i (s.get! (i + 0)).toNat (s.get! (i + 1)).toNat (s.get! (i + 2)).toNat (s.get! (i + 3)).toNat := rfl
theorem valid_iff (c : Nat) : Utf8.valid (c : Int) = true ↔ c < 0xD800 ∨ (0xE000 ≤ c ∧ c ≤ 0x10FFFF) := by
  simp [Utf8.valid]
  omega

/-- What Next answers: it is a rune's beginning, and the decoder says so; or it is none, and the decoder tells an error. -/
def Good (r : Option (Int × Int × Bool)) (d : Nat × Nat) : Prop := (r = some ((d.1 : Int), (d.2 : Int), true)) ∨ (∃ x y, r = some (x, y, false) ∧ d.1 = 65533)

theorem shl1 : shl .i64 1 5 = 32 ∧ shl .i64 1 4 = 16 ∧ shl .i64 1 3 = 8 := by
  refine ⟨?_, ?_, ?_⟩ <;> kernel_rfl

theorem second_iff (a b : Nat) : odysseyref01_second.f (a : Int) (b : Int) = some (decide ((if a = 224 then 160 else if a = 240 then 144 else 128) ≤ b ∧ b ≤ (if a = 237 then 159 else if a = 244 then 143 else 191))) := by
  unfold odysseyref01_second.f
  have two : ∀ lo hi : Nat, (if (b : Int) ≥ (lo : Int) then some (decide ((b : Int) ≤ (hi : Int))) else some false) = some (decide (lo ≤ b ∧ b ≤ hi)) := by
    intro lo hi
    by_cases h : (b : Int) ≥ (lo : Int)
    · rw [if_pos h]
      exact congrArg some (decide_eq_decide.2 (by omega))
    · rw [if_neg h]
      exact congrArg some (by rw [eq_comm, decide_eq_false_iff_not]; omega)
  by_cases h1 : a = 224
  · subst h1
    exact two 160 191
  rw [if_neg (by omega), if_neg h1]
  by_cases h2 : a = 237
  · subst h2
    exact two 128 159
  rw [if_neg (by omega), if_neg h2]
  by_cases h3 : a = 240
  · subst h3
    exact two 144 191
  rw [if_neg (by omega), if_neg h3]
  by_cases h4 : a = 244
  · subst h4
    exact two 128 143
  rw [if_neg (by omega), if_neg h4]
  exact two 128 191

/-- One round of Next's loop. -/
theorem round (k : Nat) (s : ByteArray) (at' b0 n : Nat) (r : Nat) (i : Nat) (hi : i < n) (hs : s.size ≤ 1000000000000000) (hl : at' + i < s.size) (hr : r ≤ 100000000) (hn : n ≤ 4) :
    odysseyref01_Next.l0 (k + 1) s at' b0 n r i =
      if byte s (at' + i) < 128 ∨ byte s (at' + i) > 191 then some (65533, 1, false)
      else if i = 1 then (if (if b0 = 224 then 160 else if b0 = 240 then 144 else 128) ≤ byte s (at' + i) ∧ byte s (at' + i) ≤ (if b0 = 237 then 159 else if b0 = 244 then 143 else 191) then odysseyref01_Next.l0 k s at' b0 n ((r * 64 + byte s (at' + i) % 64 : Nat) : Int) ((i + 1 : Nat) : Int) else some (65533, 1, false))
      else odysseyref01_Next.l0 k s at' b0 n ((r * 64 + byte s (at' + i) % 64 : Nat) : Int) ((i + 1 : Nat) : Int) := by
  have hb := byte_lt s (at' + i)
  have c1 : (i : Int) < (n : Int) := by omega
  have c2 : (0 : Int) ≤ ((at' + i : Nat) : Int) := by omega
  have c3 : ((at' + i : Nat) : Int) < (s.size : Int) := by omega
  have e1 : wrap64 ((at' : Int) + (i : Int)) = ((at' + i : Nat) : Int) := by rw [wrap64_in _ (by omega)]; omega
  have e4 : wrap64 ((i : Int) + 1) = ((i + 1 : Nat) : Int) := by rw [wrap64_in _ (by omega)]; omega
  have e5 := bt_byte s _ hl
  generalize byte s (at' + i) = b at *
  have e2 : wrap64 (b : Int) = (b : Int) := w64 _ (by omega)
  have e3 : wrap64 ((wrap64 ((r : Int) * 64)) + (Int.tmod (b : Int) 64)) = ((r * 64 + b % 64 : Nat) : Int) := by
    rw [wrap64_in ((r : Int) * 64) (by omega), Int.tmod_eq_emod_of_nonneg (by omega), wrap64_in _ (by omega)]
    omega
  rw [odysseyref01_Next.l0, if_pos c1, e1, if_pos c2, if_pos c3, e5, e2, e3, e4, second_iff]
  clear e1 e2 e3 e4 e5 c1 c2 c3
  by_cases h1 : b < 128
  · have d1 : (b : Int) < 128 := by omega
    rw [if_pos d1, if_pos (Or.inl h1)]
  · have d1 : ¬ (b : Int) < 128 := by omega
    rw [if_neg d1]
    by_cases h2 : b > 191
    · have d2 : (b : Int) > 191 := by omega
      rw [if_pos d2, if_pos (Or.inr h2)]
    · have d2 : ¬ (b : Int) > 191 := by omega
      have d3 : ¬ (b < 128 ∨ b > 191) := by omega
      rw [if_neg d2, if_neg d3]
      by_cases h3 : i = 1
      · have d4 : (i : Int) = 1 := by omega
        rw [if_pos d4, if_pos h3]
        simp only [Option.bind_some, decide_eq_true_eq]
      · have d4 : ¬ (i : Int) = 1 := by omega
        rw [if_neg d4, if_neg h3]
theorem done (k : Nat) (s : ByteArray) (at' b0 n : Nat) (r : Nat) : odysseyref01_Next.l0 (k + 1) s at' b0 n r n = some ((r : Int), (n : Int), true) := by
  rw [odysseyref01_Next.l0, if_neg (by omega)]

theorem lohi (b0 : Nat) : ((b0 = 224 → (if b0 = 224 then 160 else if b0 = 240 then 144 else 128) = 160) ∧ (b0 = 240 → (if b0 = 224 then 160 else if b0 = 240 then 144 else 128) = 144) ∧ (b0 ≠ 224 → b0 ≠ 240 → (if b0 = 224 then 160 else if b0 = 240 then 144 else 128) = 128)) ∧
    ((b0 = 237 → (if b0 = 237 then 159 else if b0 = 244 then 143 else 191) = 159) ∧ (b0 = 244 → (if b0 = 237 then 159 else if b0 = 244 then 143 else 191) = 143) ∧ (b0 ≠ 237 → b0 ≠ 244 → (if b0 = 237 then 159 else if b0 = 244 then 143 else 191) = 191)) := by
  refine ⟨⟨?_, ?_, ?_⟩, ?_, ?_, ?_⟩
  · rintro rfl; rfl
  · rintro rfl; rfl
  · intro a b; rw [if_neg a, if_neg b]
  · rintro rfl; rfl
  · rintro rfl; rfl
  · intro a b; rw [if_neg a, if_neg b]
theorem long_eq (k b : Nat) : odysseyref01_long.f (k + 2) (b : Int) = some ((if b < 128 then 1 else if 194 ≤ b ∧ b ≤ 223 then 2 else if 224 ≤ b ∧ b ≤ 239 then 3 else if 240 ≤ b ∧ b ≤ 244 then 4 else 0 : Nat) : Int) := by
  unfold odysseyref01_long.f
  by_cases h1 : b < 128
  · rw [if_pos (by omega), if_pos h1]; rfl
  rw [if_neg (by omega), if_neg h1]
  by_cases h2 : 194 ≤ b ∧ b ≤ 223
  · have d : decide ((b : Int) ≤ 223) = true := decide_eq_true (by omega)
    rw [if_pos (by omega), if_pos h2, d, odysseyref01_long.j0, if_pos rfl]; rfl
  have e0 : (if (b : Int) ≥ 194 then odysseyref01_long.j0 (k + 2) b (decide ((b : Int) ≤ 223)) else odysseyref01_long.j0 (k + 2) b false) = odysseyref01_long.j0 (k + 2) b false := by
    by_cases h : (b : Int) ≥ 194
    · have d : decide ((b : Int) ≤ 223) = false := decide_eq_false (by omega)
      rw [if_pos h, d]
    · rw [if_neg h]
  rw [e0, if_neg h2, odysseyref01_long.j0, if_neg (by decide)]
  by_cases h3 : 224 ≤ b ∧ b ≤ 239
  · have d : decide ((b : Int) ≤ 239) = true := decide_eq_true (by omega)
    rw [if_pos (by omega), if_pos h3, d, odysseyref01_long.j1, if_pos rfl]; rfl
  have e1 : (if (b : Int) ≥ 224 then odysseyref01_long.j1 (k + 1) b (decide ((b : Int) ≤ 239)) else odysseyref01_long.j1 (k + 1) b false) = odysseyref01_long.j1 (k + 1) b false := by
    by_cases h : (b : Int) ≥ 224
    · have d : decide ((b : Int) ≤ 239) = false := decide_eq_false (by omega)
      rw [if_pos h, d]
    · rw [if_neg h]
  rw [e1, if_neg h3, odysseyref01_long.j1, if_neg (by decide)]
  by_cases h4 : 240 ≤ b ∧ b ≤ 244
  · rw [if_pos (by omega), if_pos h4, if_pos (by omega)]; rfl
  rw [if_neg h4]
  by_cases h : (b : Int) ≥ 240
  · rw [if_pos h, if_neg (by omega)]; rfl
  · rw [if_neg h]; rfl

theorem decB_eq (sz i b0 b1 b2 b3 : Nat) : decB sz i b0 b1 b2 b3 =
    if b0 < 128 then (b0, 1)
    else if b0 / 32 = 6 ∧ i + 1 < sz ∧ b1 / 64 = 2 then (if (b0 % 32) * 64 + b1 % 64 ≥ 128 then ((b0 % 32) * 64 + b1 % 64, 2) else (65533, 1))
    else if (b0 / 16 = 14 ∧ i + 1 < sz ∧ b1 / 64 = 2) ∧ i + 2 < sz ∧ b2 / 64 = 2 then
      (if (b0 % 16) * 4096 + (b1 % 64) * 64 + b2 % 64 ≥ 2048 ∧ ((b0 % 16) * 4096 + (b1 % 64) * 64 + b2 % 64 < 55296 ∨ (57344 ≤ (b0 % 16) * 4096 + (b1 % 64) * 64 + b2 % 64 ∧ (b0 % 16) * 4096 + (b1 % 64) * 64 + b2 % 64 ≤ 1114111)) then ((b0 % 16) * 4096 + (b1 % 64) * 64 + b2 % 64, 3) else (65533, 1))
    else if ((b0 / 8 = 30 ∧ i + 1 < sz ∧ b1 / 64 = 2) ∧ i + 2 < sz ∧ b2 / 64 = 2) ∧ i + 3 < sz ∧ b3 / 64 = 2 then
      (if (b0 % 8) * 262144 + (b1 % 64) * 4096 + (b2 % 64) * 64 + b3 % 64 ≥ 65536 ∧ ((b0 % 8) * 262144 + (b1 % 64) * 4096 + (b2 % 64) * 64 + b3 % 64 < 55296 ∨ (57344 ≤ (b0 % 8) * 262144 + (b1 % 64) * 4096 + (b2 % 64) * 64 + b3 % 64 ∧ (b0 % 8) * 262144 + (b1 % 64) * 4096 + (b2 % 64) * 64 + b3 % 64 ≤ 1114111)) then ((b0 % 8) * 262144 + (b1 % 64) * 4096 + (b2 % 64) * 64 + b3 % 64, 4) else (65533, 1))
    else (65533, 1) := by
  unfold decB
  simp only [Bool.and_eq_true, beq_iff_eq, decide_eq_true_eq, valid_iff]

theorem next_good (s : ByteArray) (hs : s.size ≤ 1000000000000000) (i : Nat) (hi : i < s.size) (k : Nat) : Good (odysseyref01_Next.f (k + 6) s (i : Int)) (Utf8.decode s i) := by
  have g0 := byte_get s i hi
  have g1 : i + 1 < s.size → (s.get! (i + 1)).toNat = byte s (i + 1) := byte_get s (i + 1)
  have g2 : i + 2 < s.size → (s.get! (i + 2)).toNat = byte s (i + 2) := byte_get s (i + 2)
  have g3 : i + 3 < s.size → (s.get! (i + 3)).toNat = byte s (i + 3) := byte_get s (i + 3)
  rw [decode_eq, decB_eq]
  have z : i + 0 = i := rfl
  rw [z, g0]
  clear z g0
  have hb := byte_lt s i
  have c0 : (0 : Int) ≤ (i : Int) := by omega
  have c1 : (i : Int) < (s.size : Int) := by omega
  have hsub : wrap64 ((s.size : Int) - (i : Int)) = ((s.size - i : Nat) : Int) := by rw [wrap64_in _ (by omega)]; omega
  unfold odysseyref01_Next.f
  rw [if_pos c0, if_pos c1, bt_byte s i hi, w64 _ (by omega), long_eq, Option.bind_some, hsub]
  have hr1 := round (s := s) (at' := i) (b0 := byte s i) (i := 1) (hs := hs)
  have hr2 := round (s := s) (at' := i) (b0 := byte s i) (i := 2) (hs := hs)
  have hr3 := round (s := s) (at' := i) (b0 := byte s i) (i := 3) (hs := hs)
  have l1 := byte_lt s (i + 1)
  have l2 := byte_lt s (i + 2)
  have l3 := byte_lt s (i + 3)
  generalize (s.get! (i + 1)).toNat = b1 at *
  generalize (s.get! (i + 2)).toNat = b2 at *
  generalize (s.get! (i + 3)).toNat = b3 at *
  generalize byte s i = b0 at *
  by_cases h1 : b0 < 128
  · rw [if_pos h1, if_pos h1]
    left
    rw [if_neg (by decide)]
    have d : decide (((1 : Nat) : Int) > ((s.size - i : Nat) : Int)) = false := decide_eq_false (by omega)
    rw [d, odysseyref01_Next.j0, if_neg (by decide), if_pos (by rfl)]
    rfl
  rw [if_neg h1, if_neg h1]
  by_cases h2 : 194 ≤ b0 ∧ b0 ≤ 223
  · rw [if_pos h2]
    by_cases hl : s.size - i < 2
    · right
      have d : decide (((2 : Nat) : Int) > ((s.size - i : Nat) : Int)) = true := decide_eq_true (by omega)
      rw [if_neg (by decide), d, odysseyref01_Next.j0, if_pos rfl]
      refine ⟨_, _, rfl, ?_⟩
      rw [if_neg (by omega), if_neg (by omega), if_neg (by omega)]
    have d : decide (((2 : Nat) : Int) > ((s.size - i : Nat) : Int)) = false := decide_eq_false (by omega)
    have e5 : wrap64 (7 - ((2 : Nat) : Int)) = 5 := by rw [wrap64_in _ (by omega)]; omega
    have et : Int.tmod (b0 : Int) 32 = ((b0 % 32 : Nat) : Int) := by rw [Int.tmod_eq_emod_of_nonneg (by omega)]; omega
    rw [if_neg (by decide), d, odysseyref01_Next.j0, if_neg (by decide), if_neg (by decide), e5, if_pos (by decide), shl1.1, if_neg (by decide), et]
    have hr := hr1 (k := k + 4) (n := 2) (r := b0 % 32) (by omega) (by omega) (by omega) (by omega)
    rw [show (1 : Int) = ((1 : Nat) : Int) from rfl, hr, g1 (by omega)]
    generalize byte s (i + 1) = c1 at *
    by_cases hc : c1 < 128 ∨ c1 > 191
    · rw [if_pos hc]
      right
      refine ⟨_, _, rfl, ?_⟩
      rw [if_neg (by omega), if_neg (by omega), if_neg (by omega)]
    rw [if_neg hc, if_pos rfl, if_pos (by have := lohi b0; omega)]
    left
    rw [if_pos (by omega), if_pos (by omega)]
    exact done (k + 3) s i b0 2 _
  rw [if_neg h2]
  by_cases h3 : 224 ≤ b0 ∧ b0 ≤ 239
  · rw [if_pos h3]
    by_cases hl : s.size - i < 3
    · right
      have d : decide (((3 : Nat) : Int) > ((s.size - i : Nat) : Int)) = true := decide_eq_true (by omega)
      rw [if_neg (by decide), d, odysseyref01_Next.j0, if_pos rfl]
      refine ⟨_, _, rfl, ?_⟩
      rw [if_neg (by omega), if_neg (by omega), if_neg (by omega)]
    have d : decide (((3 : Nat) : Int) > ((s.size - i : Nat) : Int)) = false := decide_eq_false (by omega)
    have e5 : wrap64 (7 - ((3 : Nat) : Int)) = 4 := by rw [wrap64_in _ (by omega)]; omega
    have et : Int.tmod (b0 : Int) 16 = ((b0 % 16 : Nat) : Int) := by rw [Int.tmod_eq_emod_of_nonneg (by omega)]; omega
    rw [if_neg (by decide), d, odysseyref01_Next.j0, if_neg (by decide), if_neg (by decide), e5, if_pos (by decide), shl1.2.1, if_neg (by decide), et]
    clear e5 et d
    have hr := hr1 (k := k + 4) (n := 3) (r := b0 % 16) (by omega) (by omega) (by omega) (by omega)
    rw [show (1 : Int) = ((1 : Nat) : Int) from rfl, hr, g1 (by omega)]
    clear hr hr1
    generalize byte s (i + 1) = c1 at *
    have hlh := lohi b0
    generalize (if b0 = 224 then 160 else if b0 = 240 then 144 else 128) = lo at *
    generalize (if b0 = 237 then 159 else if b0 = 244 then 143 else 191) = hi' at *
    by_cases hc : c1 < 128 ∨ c1 > 191
    · rw [if_pos hc]
      right
      refine ⟨_, _, rfl, ?_⟩
      rw [if_neg (by omega), if_neg (by omega), if_neg (by omega)]
    rw [if_neg hc, if_pos rfl]
    by_cases hs2 : lo ≤ c1 ∧ c1 ≤ hi'
    · rw [if_pos hs2]
      have hr := hr2 (k := k + 3) (n := 3) (r := b0 % 16 * 64 + c1 % 64) (by omega) (by omega) (by omega) (by omega)
      rw [show ((1 + 1 : Nat) : Int) = ((2 : Nat) : Int) from rfl, hr, g2 (by omega)]
      clear hr hr2 hr3
      generalize byte s (i + 2) = c2 at *
      by_cases hd : c2 < 128 ∨ c2 > 191
      · rw [if_pos hd]
        right
        refine ⟨_, _, rfl, ?_⟩
        rw [if_neg (by omega), if_neg (by omega), if_neg (by omega)]
      rw [if_neg hd, if_neg (by decide)]
      left
      rw [if_neg (by omega), if_pos (by omega), if_pos (by omega)]
      have e : (b0 % 16 * 64 + c1 % 64) * 64 + c2 % 64 = b0 % 16 * 4096 + c1 % 64 * 64 + c2 % 64 := by omega
      rw [e]
      exact done (k + 2) s i b0 3 _
    · rw [if_neg hs2]
      right
      refine ⟨_, _, rfl, ?_⟩
      rw [if_neg (by omega)]
      by_cases hb2 : i + 2 < s.size ∧ b2 / 64 = 2
      · rw [if_pos (by omega), if_neg (by omega)]
      · rw [if_neg (by omega), if_neg (by omega)]
  rw [if_neg h3]
  by_cases h4 : 240 ≤ b0 ∧ b0 ≤ 244
  · rw [if_pos h4]
    by_cases hl : s.size - i < 4
    · right
      have d : decide (((4 : Nat) : Int) > ((s.size - i : Nat) : Int)) = true := decide_eq_true (by omega)
      rw [if_neg (by decide), d, odysseyref01_Next.j0, if_pos rfl]
      refine ⟨_, _, rfl, ?_⟩
      rw [if_neg (by omega), if_neg (by omega), if_neg (by omega)]
    have d : decide (((4 : Nat) : Int) > ((s.size - i : Nat) : Int)) = false := decide_eq_false (by omega)
    have e5 : wrap64 (7 - ((4 : Nat) : Int)) = 3 := by rw [wrap64_in _ (by omega)]; omega
    have et : Int.tmod (b0 : Int) 8 = ((b0 % 8 : Nat) : Int) := by rw [Int.tmod_eq_emod_of_nonneg (by omega)]; omega
    rw [if_neg (by decide), d, odysseyref01_Next.j0, if_neg (by decide), if_neg (by decide), e5, if_pos (by decide), shl1.2.2, if_neg (by decide), et]
    clear e5 et d
    have hr := hr1 (k := k + 4) (n := 4) (r := b0 % 8) (by omega) (by omega) (by omega) (by omega)
    rw [show (1 : Int) = ((1 : Nat) : Int) from rfl, hr, g1 (by omega)]
    clear hr hr1
    generalize byte s (i + 1) = c1 at *
    have hlh := lohi b0
    generalize (if b0 = 224 then 160 else if b0 = 240 then 144 else 128) = lo at *
    generalize (if b0 = 237 then 159 else if b0 = 244 then 143 else 191) = hi' at *
    by_cases hc : c1 < 128 ∨ c1 > 191
    · rw [if_pos hc]
      right
      refine ⟨_, _, rfl, ?_⟩
      rw [if_neg (by omega), if_neg (by omega), if_neg (by omega)]
    rw [if_neg hc, if_pos rfl]
    by_cases hs2 : lo ≤ c1 ∧ c1 ≤ hi'
    · rw [if_pos hs2]
      have hr := hr2 (k := k + 3) (n := 4) (r := b0 % 8 * 64 + c1 % 64) (by omega) (by omega) (by omega) (by omega)
      rw [show ((1 + 1 : Nat) : Int) = ((2 : Nat) : Int) from rfl, hr, g2 (by omega)]
      clear hr hr2
      generalize byte s (i + 2) = c2 at *
      by_cases hd : c2 < 128 ∨ c2 > 191
      · rw [if_pos hd]
        right
        refine ⟨_, _, rfl, ?_⟩
        rw [if_neg (by omega), if_neg (by omega), if_neg (by omega)]
      rw [if_neg hd, if_neg (by decide)]
      have hr := hr3 (k := k + 2) (n := 4) (r := (b0 % 8 * 64 + c1 % 64) * 64 + c2 % 64) (by omega) (by omega) (by omega) (by omega)
      rw [show ((2 + 1 : Nat) : Int) = ((3 : Nat) : Int) from rfl, hr, g3 (by omega)]
      clear hr hr3
      generalize byte s (i + 3) = c3 at *
      by_cases hf : c3 < 128 ∨ c3 > 191
      · rw [if_pos hf]
        right
        refine ⟨_, _, rfl, ?_⟩
        rw [if_neg (by omega), if_neg (by omega), if_neg (by omega)]
      rw [if_neg hf, if_neg (by decide)]
      left
      rw [if_neg (by omega), if_neg (by omega), if_pos (by omega), if_pos (by omega)]
      have e : ((b0 % 8 * 64 + c1 % 64) * 64 + c2 % 64) * 64 + c3 % 64 = b0 % 8 * 262144 + c1 % 64 * 4096 + c2 % 64 * 64 + c3 % 64 := by omega
      rw [e]
      exact done (k + 1) s i b0 4 _
    · rw [if_neg hs2]
      right
      refine ⟨_, _, rfl, ?_⟩
      rw [if_neg (by omega), if_neg (by omega)]
      by_cases hb2 : (i + 2 < s.size ∧ b2 / 64 = 2) ∧ i + 3 < s.size ∧ b3 / 64 = 2
      · rw [if_pos (by omega), if_neg (by omega)]
      · rw [if_neg (by omega)]
  rw [if_neg h4, if_pos (by rfl)]
  right
  rw [odysseyref01_Next.j0, if_pos rfl]
  refine ⟨_, _, rfl, ?_⟩
  clear hr1 hr2 hr3
  by_cases q1 : b0 / 32 = 6 ∧ i + 1 < s.size ∧ b1 / 64 = 2
  · rw [if_pos q1, if_neg (by omega)]
  rw [if_neg q1, if_neg (by omega)]
  by_cases q2 : ((b0 / 8 = 30 ∧ i + 1 < s.size ∧ b1 / 64 = 2) ∧ i + 2 < s.size ∧ b2 / 64 = 2) ∧ i + 3 < s.size ∧ b3 / 64 = 2
  · rw [if_pos q2, if_neg (by omega)]
  rw [if_neg q2]

theorem decode_step (s : ByteArray) (i : Nat) : 1 ≤ (Utf8.decode s i).2 ∧ (Utf8.decode s i).2 ≤ 4 := by
  simp only [Utf8.decode]
  repeat' split
  all_goals simp
theorem letter_eq (r : Int) : odysseyref01_letter.f r = some (Nm.letterR r) := by
  unfold odysseyref01_letter.f Nm.letterR
  by_cases h1 : 97 ≤ r
  · rw [if_pos h1]
    by_cases h2 : r ≤ 122
    · rw [if_pos h2]; simp [h1, h2]
    rw [if_neg h2]
    repeat' split
    all_goals (first | (simp_all; done) | (simp_all; intros; omega))
  · rw [if_neg h1]
    repeat' split
    all_goals (first | (simp_all; done) | (simp_all; intros; omega) | (simp_all; constructor <;> intros <;> omega))
/-- The loop of Is. -/
theorem is_loop (s : ByteArray) (hs : s.size ≤ 1000000000000000) : ∀ (m i n k : Nat), s.size - i = m → i ≤ s.size + 4 → n ≤ i → m + 20 < k → odysseyref01_Is.l0 k s (n : Int) (i : Int) = some (Nm.isGo (Nm.from_ s i) n) := by
  intro m
  induction m using Nat.strongRecOn with
  | _ m ih =>
    intro i n k hm hi hn hk
    obtain ⟨k, rfl⟩ : ∃ j, k = j + 1 + 6 := ⟨k - 7, by omega⟩
    rw [show k + 1 + 6 = (k + 6) + 1 from rfl, odysseyref01_Is.l0]
    by_cases hp : i < s.size
    · rw [if_pos (by omega), Nm.from_step s i hp, Nm.isGo]
      have hd := decode_step s i
      have hg := next_good s hs i hp k
      rcases hg with hg | ⟨x, y, hg, he⟩
      · rw [hg, Option.bind_some]
        generalize hq : Utf8.decode s i = d at *
        obtain ⟨r, w⟩ := d
        simp only at hd ⊢
        rw [letter_eq, Option.bind_some, if_pos trivial]
        have e1 : wrap64 ((n : Int) + 1) = ((n + 1 : Nat) : Int) := by rw [wrap64_in _ (by omega)]; omega
        have e2 : wrap64 ((i : Int) + (w : Int)) = ((i + w : Nat) : Int) := by rw [wrap64_in _ (by omega)]; omega
        have hI := ih (s.size - (i + w)) (by omega) (i + w) (n + 1) (k + 6) rfl (by omega) (by omega) (by omega)
        rw [e1, e2, hI]
        unfold Nm.mayR
        cases hL : Nm.letterR (r : Int)
        · simp only [Bool.false_eq_true, if_false, Bool.false_or]
          by_cases hn0 : n > 0
          · rw [if_pos (by omega)]
            by_cases q1 : (r : Int) = 45
            · rw [if_pos q1]; simp [q1, hn0]
            rw [if_neg q1]
            by_cases q2 : (r : Int) ≥ 48
            · rw [if_pos q2]
              by_cases q3 : (r : Int) ≤ 57
              · rw [if_pos q3]
                have : (48 : Int) ≤ r := q2
                simp [hn0, this, q3]
              · rw [if_neg q3]; simp [q1, q3]
            · rw [if_neg q2]
              have : ¬ (48 : Int) ≤ r := q2
              simp [q1, this]
          · rw [if_neg (by omega)]
            simp [hn0]
        · simp
      · rw [hg, Option.bind_some, letter_eq, Option.bind_some, if_neg (by simp)]
        have hz : Nm.mayR ((Utf8.decode s i).1 : Int) n = false := by
          rw [he]
          unfold Nm.mayR Nm.letterR
          simp
        rw [hz, Bool.false_and]
    · rw [if_neg (by omega), Nm.from_end s i (by omega), Nm.isGo]
      by_cases q1 : (n : Int) ≥ 1
      · rw [if_pos q1]
        have : 0 < n := by omega
        simp [this]
        omega
      · rw [if_neg q1]
        have : ¬ 0 < n := by omega
        simp [this]
theorem is_eq (s : ByteArray) (hs : s.size ≤ 1000000000000000) (k : Nat) (hk : s.size + 20 < k) : odysseyref01_Is.f k s = some (Nm.isName s) := by
  unfold odysseyref01_Is.f
  exact is_loop s hs s.size 0 0 k rfl (by omega) (by omega) (by omega)
end Go.Proofs.Ytejaepohkcjoiaa.RefIs

/- The document's MayNote: the walk (written by wip/gen/mkrefn.py). -/
namespace Go.Proofs.Ytejaepohkcjoiaa.RefN
open Go.RowKit Go.IntWalk Go.Proofs.Ytejaepohkcjoiaa.G Go.Proofs.YtejaepohkcjoiaaW.PrintWords Go.Proofs.YtejaepohkcjoiaaW.PrintLast Go.Proofs.YtejaepohkcjoiaaW.PrintMore Go.Proofs.Ytejaepohkcjoiaa.CdForm Go.Proofs.Ytejaepohkcjoiaa.CdMay
attribute [local go_sem high] eqA38
theorem within_b (n a b : Int) (w : World) : Calls Try.prog 39 #[.int .i64 n, .int .i64 a, .int .i64 b] w fun e w' => ∃ nd, e = .returned (.bool (btw n a b)) ∧ w' = w.drewN nd := by
  have h : odysseyref07_within.f n a b = some (btw n a b) := by
    unfold odysseyref07_within.f btw
    by_cases h : a ≤ n <;> simp [h]
  refine (odysseyref07_within.calls n a b _ w h).mono ?_
  rintro e w' ⟨rfl, nd, rfl⟩
  exact ⟨nd, rfl, rfl⟩
theorem rid_b (n : Int) (w : World) : Calls Try.prog 40 #[.int .i64 n] w fun e w' => ∃ nd, e = .returned (.bool (btw n 1 60)) ∧ w' = w.drewN nd := by
  have h : odysseyref07_id.f n = some (btw n 1 60) := by
    unfold odysseyref07_id.f odysseyref07_within.f btw
    by_cases h : 1 ≤ n <;> simp [h]
  refine (odysseyref07_id.calls n _ w h).mono ?_
  rintro e w' ⟨rfl, nd, rfl⟩
  exact ⟨nd, rfl, rfl⟩
theorem rstep_b (n : Int) (w : World) : Calls Try.prog 41 #[.int .i64 n] w fun e w' => ∃ nd, e = .returned (.bool (btw n 0 7)) ∧ w' = w.drewN nd := by
  have h : odysseyref07_step.f n = some (btw n 0 7) := by
    unfold odysseyref07_step.f odysseyref07_within.f btw
    by_cases h : 0 ≤ n <;> simp [h]
  refine (odysseyref07_step.calls n _ w h).mono ?_
  rintro e w' ⟨rfl, nd, rfl⟩
  exact ⟨nd, rfl, rfl⟩
theorem ris_b (s : ByteArray) (hs : s.size ≤ 1000000000000000) (w : World) : Calls Try.prog 43 #[.string s] w fun e w' => ∃ nd, e = .returned (.bool (Nm.isName s)) ∧ w' = w.drewN nd := by
  refine (odysseyref01_Is.calls (s.size + 21) s _ w (RefIs.is_eq s hs _ (by omega))).mono ?_
  rintro e w' ⟨rfl, nd, rfl⟩
  exact ⟨nd, rfl, rfl⟩
theorem below_two' (w : World) (a b : Obj) : Below w.heap.size w ((w.alloc a).alloc b) := below_two w a b
theorem below_s {a w : World} {k j : Nat} {v : Value} (h : Below a.heap.size a w) (hk : a.heap.size ≤ k) : Below a.heap.size a (w.setCell ⟨k, j, none⟩ v) := h.setCell hk v
theorem eqb (a b : ByteArray) : (a.toList == b.toList) = (b.toList == a.toList) := by
  rw [Bool.eq_iff_iff, beq_iff_eq, beq_iff_eq]
  exact eq_comm
theorem eqi (a b : Int) : (a == b) = (b == a) := by
  rw [Bool.eq_iff_iff, beq_iff_eq, beq_iff_eq]
  exact eq_comm
end Go.Proofs.Ytejaepohkcjoiaa.RefN

/- The document's MayNote: the walk (written by wip/gen/mkrefn.py). -/
namespace Go.Proofs.Ytejaepohkcjoiaa.RefN
open Go.RowKit Go.IntWalk Go.Proofs.Ytejaepohkcjoiaa.G Go.Proofs.YtejaepohkcjoiaaW.PrintWords Go.Proofs.YtejaepohkcjoiaaW.PrintLast Go.Proofs.YtejaepohkcjoiaaW.PrintMore Go.Proofs.Ytejaepohkcjoiaa.CdForm Go.Proofs.Ytejaepohkcjoiaa.CdMay
attribute [local go_sem high] eqA38

set_option linter.unusedSimpArgs false in
set_option linter.unusedVariables false in
set_option maxHeartbeats 8000000 in
set_option maxRecDepth 100000 in
theorem ref1 (w : World) (kind inst step state part cause : Int) (key name : ByteArray) (version : Int) (text : ByteArray) (hs : key.size ≤ 1000000000000000 ∧ name.size ≤ 1000000000000000) (hk : kind = 1) :
    Calls Try.prog 31 #[.agg (CdNote.cells ⟨kind, inst, step, state, part, cause, key, name, version, text⟩)] w fun e w' => e = .returned (.bool (mayN ⟨kind, inst, step, state, part, cause, key, name, version, text⟩)) ∧ Below w.heap.size w w' := by
  have HS := Aside0.mk hs
  clear hs
  subst hk
  cases h0 : (inst == 0)
  all_goals cases h1 : btw inst 1 60
  all_goals cases h2 : btw text.size 1 1800
  all_goals
    have H0 := Aside0.mk h0; (first | (obtain rfl := eq_of_beq h0; clear h0; have N0 : Aside0 True := ⟨trivial⟩) | have N0 := Aside0.mk (beq_eq_false_iff_ne.1 h0)); have H1 := Aside0.mk h1; clear h1; have H2 := Aside0.mk h2; clear h2
  all_goals
    go_enter Try.func31, Try.ntmps31
    simp only [CdNote.cells]
    go_wp2_with (first | (go_at_call 39; refine (within_b _ _ _ _).mono ?_; (first | rw [H0.out] | rw [H1.out] | rw [H2.out] | skip); rintro e w1 ⟨nd, rfl, rfl⟩) | (go_at_call 40; refine (rid_b _ _).mono ?_; (first | rw [H0.out] | rw [H1.out] | rw [H2.out] | skip); rintro e w1 ⟨nd, rfl, rfl⟩) | (go_at_call 41; refine (rstep_b _ _).mono ?_; (first | rw [H0.out] | rw [H1.out] | rw [H2.out] | skip); rintro e w1 ⟨nd, rfl, rfl⟩) | (go_at_call 43; refine (ris_b _ (by first | exact HS.out.1 | exact HS.out.2) _).mono ?_; (first | rw [H0.out] | rw [H1.out] | rw [H2.out] | skip); rintro e w1 ⟨nd, rfl, rfl⟩))
    all_goals (go_ret; refine ⟨by first | (simp [mayN, ownN, eqN, CdNote.nullD, H0.out, H1.out, H2.out, N0.out]; done) | (simp [mayN, ownN, eqN, CdNote.nullD, H0.out, H1.out, H2.out, N0.out, eqi, eqb]; done) | trace_state, ?_⟩; (repeat (with_reducible (first | exact below_two' _ _ _ | exact below_two _ _ _ | apply pw_below_drewN | apply Below.drew | refine below_s ?_ (by omega)))))

set_option linter.unusedSimpArgs false in
set_option linter.unusedVariables false in
set_option maxHeartbeats 8000000 in
set_option maxRecDepth 100000 in
theorem ref3 (w : World) (kind inst step state part cause : Int) (key name : ByteArray) (version : Int) (text : ByteArray) (hs : key.size ≤ 1000000000000000 ∧ name.size ≤ 1000000000000000) (hk : kind = 3) :
    Calls Try.prog 31 #[.agg (CdNote.cells ⟨kind, inst, step, state, part, cause, key, name, version, text⟩)] w fun e w' => e = .returned (.bool (mayN ⟨kind, inst, step, state, part, cause, key, name, version, text⟩)) ∧ Below w.heap.size w w' := by
  have HS := Aside0.mk hs
  clear hs
  subst hk
  cases h0 : btw inst 1 60
  all_goals
    have H0 := Aside0.mk h0; clear h0
  all_goals
    go_enter Try.func31, Try.ntmps31
    simp only [CdNote.cells]
    go_wp2_with (first | (go_at_call 39; refine (within_b _ _ _ _).mono ?_; (first | rw [H0.out] | skip); rintro e w1 ⟨nd, rfl, rfl⟩) | (go_at_call 40; refine (rid_b _ _).mono ?_; (first | rw [H0.out] | skip); rintro e w1 ⟨nd, rfl, rfl⟩) | (go_at_call 41; refine (rstep_b _ _).mono ?_; (first | rw [H0.out] | skip); rintro e w1 ⟨nd, rfl, rfl⟩) | (go_at_call 43; refine (ris_b _ (by first | exact HS.out.1 | exact HS.out.2) _).mono ?_; (first | rw [H0.out] | skip); rintro e w1 ⟨nd, rfl, rfl⟩))
    all_goals (go_ret; refine ⟨by first | (simp [mayN, ownN, eqN, CdNote.nullD, H0.out]; done) | (simp [mayN, ownN, eqN, CdNote.nullD, H0.out, eqi, eqb]; done) | trace_state, ?_⟩; (repeat (with_reducible (first | exact below_two' _ _ _ | exact below_two _ _ _ | apply pw_below_drewN | apply Below.drew | refine below_s ?_ (by omega)))))

set_option linter.unusedSimpArgs false in
set_option linter.unusedVariables false in
set_option maxHeartbeats 8000000 in
set_option maxRecDepth 100000 in
theorem ref4 (w : World) (kind inst step state part cause : Int) (key name : ByteArray) (version : Int) (text : ByteArray) (hs : key.size ≤ 1000000000000000 ∧ name.size ≤ 1000000000000000) (hk : kind = 4) :
    Calls Try.prog 31 #[.agg (CdNote.cells ⟨kind, inst, step, state, part, cause, key, name, version, text⟩)] w fun e w' => e = .returned (.bool (mayN ⟨kind, inst, step, state, part, cause, key, name, version, text⟩)) ∧ Below w.heap.size w w' := by
  have HS := Aside0.mk hs
  clear hs
  subst hk
  cases h0 : btw inst 1 60
  all_goals
    have H0 := Aside0.mk h0; clear h0
  all_goals
    go_enter Try.func31, Try.ntmps31
    simp only [CdNote.cells]
    go_wp2_with (first | (go_at_call 39; refine (within_b _ _ _ _).mono ?_; (first | rw [H0.out] | skip); rintro e w1 ⟨nd, rfl, rfl⟩) | (go_at_call 40; refine (rid_b _ _).mono ?_; (first | rw [H0.out] | skip); rintro e w1 ⟨nd, rfl, rfl⟩) | (go_at_call 41; refine (rstep_b _ _).mono ?_; (first | rw [H0.out] | skip); rintro e w1 ⟨nd, rfl, rfl⟩) | (go_at_call 43; refine (ris_b _ (by first | exact HS.out.1 | exact HS.out.2) _).mono ?_; (first | rw [H0.out] | skip); rintro e w1 ⟨nd, rfl, rfl⟩))
    all_goals (go_ret; refine ⟨by first | (simp [mayN, ownN, eqN, CdNote.nullD, H0.out]; done) | (simp [mayN, ownN, eqN, CdNote.nullD, H0.out, eqi, eqb]; done) | trace_state, ?_⟩; (repeat (with_reducible (first | exact below_two' _ _ _ | exact below_two _ _ _ | apply pw_below_drewN | apply Below.drew | refine below_s ?_ (by omega)))))

set_option linter.unusedSimpArgs false in
set_option linter.unusedVariables false in
set_option maxHeartbeats 8000000 in
set_option maxRecDepth 100000 in
theorem ref7 (w : World) (kind inst step state part cause : Int) (key name : ByteArray) (version : Int) (text : ByteArray) (hs : key.size ≤ 1000000000000000 ∧ name.size ≤ 1000000000000000) (hk : kind = 7) :
    Calls Try.prog 31 #[.agg (CdNote.cells ⟨kind, inst, step, state, part, cause, key, name, version, text⟩)] w fun e w' => e = .returned (.bool (mayN ⟨kind, inst, step, state, part, cause, key, name, version, text⟩)) ∧ Below w.heap.size w w' := by
  have HS := Aside0.mk hs
  clear hs
  subst hk
  cases h0 : btw inst 1 60
  all_goals
    have H0 := Aside0.mk h0; clear h0
  all_goals
    go_enter Try.func31, Try.ntmps31
    simp only [CdNote.cells]
    go_wp2_with (first | (go_at_call 39; refine (within_b _ _ _ _).mono ?_; (first | rw [H0.out] | skip); rintro e w1 ⟨nd, rfl, rfl⟩) | (go_at_call 40; refine (rid_b _ _).mono ?_; (first | rw [H0.out] | skip); rintro e w1 ⟨nd, rfl, rfl⟩) | (go_at_call 41; refine (rstep_b _ _).mono ?_; (first | rw [H0.out] | skip); rintro e w1 ⟨nd, rfl, rfl⟩) | (go_at_call 43; refine (ris_b _ (by first | exact HS.out.1 | exact HS.out.2) _).mono ?_; (first | rw [H0.out] | skip); rintro e w1 ⟨nd, rfl, rfl⟩))
    all_goals (go_ret; refine ⟨by first | (simp [mayN, ownN, eqN, CdNote.nullD, H0.out]; done) | (simp [mayN, ownN, eqN, CdNote.nullD, H0.out, eqi, eqb]; done) | trace_state, ?_⟩; (repeat (with_reducible (first | exact below_two' _ _ _ | exact below_two _ _ _ | apply pw_below_drewN | apply Below.drew | refine below_s ?_ (by omega)))))

set_option linter.unusedSimpArgs false in
set_option linter.unusedVariables false in
set_option maxHeartbeats 8000000 in
set_option maxRecDepth 100000 in
theorem ref5 (w : World) (kind inst step state part cause : Int) (key name : ByteArray) (version : Int) (text : ByteArray) (hs : key.size ≤ 1000000000000000 ∧ name.size ≤ 1000000000000000) (hk : kind = 5) :
    Calls Try.prog 31 #[.agg (CdNote.cells ⟨kind, inst, step, state, part, cause, key, name, version, text⟩)] w fun e w' => e = .returned (.bool (mayN ⟨kind, inst, step, state, part, cause, key, name, version, text⟩)) ∧ Below w.heap.size w w' := by
  have HS := Aside0.mk hs
  clear hs
  subst hk
  cases h0 : btw inst 1 60
  all_goals cases h1 : btw step 0 7
  all_goals
    have H0 := Aside0.mk h0; clear h0; have H1 := Aside0.mk h1; clear h1
  all_goals
    go_enter Try.func31, Try.ntmps31
    simp only [CdNote.cells]
    go_wp2_with (first | (go_at_call 39; refine (within_b _ _ _ _).mono ?_; (first | rw [H0.out] | rw [H1.out] | skip); rintro e w1 ⟨nd, rfl, rfl⟩) | (go_at_call 40; refine (rid_b _ _).mono ?_; (first | rw [H0.out] | rw [H1.out] | skip); rintro e w1 ⟨nd, rfl, rfl⟩) | (go_at_call 41; refine (rstep_b _ _).mono ?_; (first | rw [H0.out] | rw [H1.out] | skip); rintro e w1 ⟨nd, rfl, rfl⟩) | (go_at_call 43; refine (ris_b _ (by first | exact HS.out.1 | exact HS.out.2) _).mono ?_; (first | rw [H0.out] | rw [H1.out] | skip); rintro e w1 ⟨nd, rfl, rfl⟩))
    all_goals (go_ret; refine ⟨by first | (simp [mayN, ownN, eqN, CdNote.nullD, H0.out, H1.out]; done) | (simp [mayN, ownN, eqN, CdNote.nullD, H0.out, H1.out, eqi, eqb]; done) | trace_state, ?_⟩; (repeat (with_reducible (first | exact below_two' _ _ _ | exact below_two _ _ _ | apply pw_below_drewN | apply Below.drew | refine below_s ?_ (by omega)))))

set_option linter.unusedSimpArgs false in
set_option linter.unusedVariables false in
set_option maxHeartbeats 8000000 in
set_option maxRecDepth 100000 in
theorem ref8 (w : World) (kind inst step state part cause : Int) (key name : ByteArray) (version : Int) (text : ByteArray) (hs : key.size ≤ 1000000000000000 ∧ name.size ≤ 1000000000000000) (hk : kind = 8) :
    Calls Try.prog 31 #[.agg (CdNote.cells ⟨kind, inst, step, state, part, cause, key, name, version, text⟩)] w fun e w' => e = .returned (.bool (mayN ⟨kind, inst, step, state, part, cause, key, name, version, text⟩)) ∧ Below w.heap.size w w' := by
  have HS := Aside0.mk hs
  clear hs
  subst hk
  cases h0 : btw inst 1 60
  all_goals cases h1 : btw part 0 3
  all_goals
    have H0 := Aside0.mk h0; clear h0; have H1 := Aside0.mk h1; clear h1
  all_goals
    go_enter Try.func31, Try.ntmps31
    simp only [CdNote.cells]
    go_wp2_with (first | (go_at_call 39; refine (within_b _ _ _ _).mono ?_; (first | rw [H0.out] | rw [H1.out] | skip); rintro e w1 ⟨nd, rfl, rfl⟩) | (go_at_call 40; refine (rid_b _ _).mono ?_; (first | rw [H0.out] | rw [H1.out] | skip); rintro e w1 ⟨nd, rfl, rfl⟩) | (go_at_call 41; refine (rstep_b _ _).mono ?_; (first | rw [H0.out] | rw [H1.out] | skip); rintro e w1 ⟨nd, rfl, rfl⟩) | (go_at_call 43; refine (ris_b _ (by first | exact HS.out.1 | exact HS.out.2) _).mono ?_; (first | rw [H0.out] | rw [H1.out] | skip); rintro e w1 ⟨nd, rfl, rfl⟩))
    all_goals (go_ret; refine ⟨by first | (simp [mayN, ownN, eqN, CdNote.nullD, H0.out, H1.out]; done) | (simp [mayN, ownN, eqN, CdNote.nullD, H0.out, H1.out, eqi, eqb]; done) | trace_state, ?_⟩; (repeat (with_reducible (first | exact below_two' _ _ _ | exact below_two _ _ _ | apply pw_below_drewN | apply Below.drew | refine below_s ?_ (by omega)))))

end Go.Proofs.Ytejaepohkcjoiaa.RefN

/- The document's MayNote: the walk (written by wip/gen/mkrefn.py). -/
namespace Go.Proofs.Ytejaepohkcjoiaa.RefN
open Go.RowKit Go.IntWalk Go.Proofs.Ytejaepohkcjoiaa.G Go.Proofs.YtejaepohkcjoiaaW.PrintWords Go.Proofs.YtejaepohkcjoiaaW.PrintLast Go.Proofs.YtejaepohkcjoiaaW.PrintMore Go.Proofs.Ytejaepohkcjoiaa.CdForm Go.Proofs.Ytejaepohkcjoiaa.CdMay
attribute [local go_sem high] eqA38

set_option linter.unusedSimpArgs false in
set_option linter.unusedVariables false in
set_option maxHeartbeats 8000000 in
set_option maxRecDepth 100000 in
theorem ref6 (w : World) (kind inst step state part cause : Int) (key name : ByteArray) (version : Int) (text : ByteArray) (hs : key.size ≤ 1000000000000000 ∧ name.size ≤ 1000000000000000) (hk : kind = 6) :
    Calls Try.prog 31 #[.agg (CdNote.cells ⟨kind, inst, step, state, part, cause, key, name, version, text⟩)] w fun e w' => e = .returned (.bool (mayN ⟨kind, inst, step, state, part, cause, key, name, version, text⟩)) ∧ Below w.heap.size w w' := by
  have HS := Aside0.mk hs
  clear hs
  subst hk
  cases h0 : btw inst 1 60
  all_goals cases h1 : btw step 0 7
  all_goals cases h2 : btw state 2 5
  all_goals
    have H0 := Aside0.mk h0; clear h0; have H1 := Aside0.mk h1; clear h1; have H2 := Aside0.mk h2; clear h2
  all_goals
    go_enter Try.func31, Try.ntmps31
    simp only [CdNote.cells]
    go_wp2_with (first | (go_at_call 39; refine (within_b _ _ _ _).mono ?_; (first | rw [H0.out] | rw [H1.out] | rw [H2.out] | skip); rintro e w1 ⟨nd, rfl, rfl⟩) | (go_at_call 40; refine (rid_b _ _).mono ?_; (first | rw [H0.out] | rw [H1.out] | rw [H2.out] | skip); rintro e w1 ⟨nd, rfl, rfl⟩) | (go_at_call 41; refine (rstep_b _ _).mono ?_; (first | rw [H0.out] | rw [H1.out] | rw [H2.out] | skip); rintro e w1 ⟨nd, rfl, rfl⟩) | (go_at_call 43; refine (ris_b _ (by first | exact HS.out.1 | exact HS.out.2) _).mono ?_; (first | rw [H0.out] | rw [H1.out] | rw [H2.out] | skip); rintro e w1 ⟨nd, rfl, rfl⟩))
    all_goals (go_ret; refine ⟨by first | (simp [mayN, ownN, eqN, CdNote.nullD, H0.out, H1.out, H2.out]; done) | (simp [mayN, ownN, eqN, CdNote.nullD, H0.out, H1.out, H2.out, eqi, eqb]; done) | trace_state, ?_⟩; (repeat (with_reducible (first | exact below_two' _ _ _ | exact below_two _ _ _ | apply pw_below_drewN | apply Below.drew | refine below_s ?_ (by omega)))))

set_option linter.unusedSimpArgs false in
set_option linter.unusedVariables false in
set_option maxHeartbeats 8000000 in
set_option maxRecDepth 100000 in
theorem ref2 (w : World) (kind inst step state part cause : Int) (key name : ByteArray) (version : Int) (text : ByteArray) (hs : key.size ≤ 1000000000000000 ∧ name.size ≤ 1000000000000000) (hk : kind = 2) :
    Calls Try.prog 31 #[.agg (CdNote.cells ⟨kind, inst, step, state, part, cause, key, name, version, text⟩)] w fun e w' => e = .returned (.bool (mayN ⟨kind, inst, step, state, part, cause, key, name, version, text⟩)) ∧ Below w.heap.size w w' := by
  have HS := Aside0.mk hs
  clear hs
  subst hk
  cases h0 : btw inst 1 60
  all_goals cases h1 : Nm.isName key
  all_goals cases h2 : Nm.isName name
  all_goals cases h3 : btw version 1 16
  all_goals
    have H0 := Aside0.mk h0; clear h0; have H1 := Aside0.mk h1; clear h1; have H2 := Aside0.mk h2; clear h2; have H3 := Aside0.mk h3; clear h3
  all_goals
    go_enter Try.func31, Try.ntmps31
    simp only [CdNote.cells]
    go_wp2_with (first | (go_at_call 39; refine (within_b _ _ _ _).mono ?_; (first | rw [H0.out] | rw [H1.out] | rw [H2.out] | rw [H3.out] | skip); rintro e w1 ⟨nd, rfl, rfl⟩) | (go_at_call 40; refine (rid_b _ _).mono ?_; (first | rw [H0.out] | rw [H1.out] | rw [H2.out] | rw [H3.out] | skip); rintro e w1 ⟨nd, rfl, rfl⟩) | (go_at_call 41; refine (rstep_b _ _).mono ?_; (first | rw [H0.out] | rw [H1.out] | rw [H2.out] | rw [H3.out] | skip); rintro e w1 ⟨nd, rfl, rfl⟩) | (go_at_call 43; refine (ris_b _ (by first | exact HS.out.1 | exact HS.out.2) _).mono ?_; (first | rw [H0.out] | rw [H1.out] | rw [H2.out] | rw [H3.out] | skip); rintro e w1 ⟨nd, rfl, rfl⟩))
    all_goals (go_ret; refine ⟨by first | (simp [mayN, ownN, eqN, CdNote.nullD, H0.out, H1.out, H2.out, H3.out]; done) | (simp [mayN, ownN, eqN, CdNote.nullD, H0.out, H1.out, H2.out, H3.out, eqi, eqb]; done) | trace_state, ?_⟩; (repeat (with_reducible (first | exact below_two' _ _ _ | exact below_two _ _ _ | apply pw_below_drewN | apply Below.drew | refine below_s ?_ (by omega)))))

set_option linter.unusedSimpArgs false in
set_option linter.unusedVariables false in
set_option maxHeartbeats 8000000 in
set_option maxRecDepth 100000 in
theorem refz (w : World) (kind inst step state part cause : Int) (key name : ByteArray) (version : Int) (text : ByteArray) (hs : key.size ≤ 1000000000000000 ∧ name.size ≤ 1000000000000000) (hk : (kind == 1) = false ∧ (kind == 2) = false ∧ (kind == 3) = false ∧ (kind == 4) = false ∧ (kind == 5) = false ∧ (kind == 6) = false ∧ (kind == 7) = false ∧ (kind == 8) = false ∧ (kind == 9) = false) :
    Calls Try.prog 31 #[.agg (CdNote.cells ⟨kind, inst, step, state, part, cause, key, name, version, text⟩)] w fun e w' => e = .returned (.bool (mayN ⟨kind, inst, step, state, part, cause, key, name, version, text⟩)) ∧ Below w.heap.size w w' := by
  have HS := Aside0.mk hs
  clear hs
  obtain ⟨hk1, hk2, hk3, hk4, hk5, hk6, hk7, hk8, hk9⟩ := hk
  have HK1 := Aside0.mk (beq_eq_false_iff_ne.1 hk1)
  have HK2 := Aside0.mk (beq_eq_false_iff_ne.1 hk2)
  have HK3 := Aside0.mk (beq_eq_false_iff_ne.1 hk3)
  have HK4 := Aside0.mk (beq_eq_false_iff_ne.1 hk4)
  have HK5 := Aside0.mk (beq_eq_false_iff_ne.1 hk5)
  have HK6 := Aside0.mk (beq_eq_false_iff_ne.1 hk6)
  have HK7 := Aside0.mk (beq_eq_false_iff_ne.1 hk7)
  have HK8 := Aside0.mk (beq_eq_false_iff_ne.1 hk8)
  have HK9 := Aside0.mk (beq_eq_false_iff_ne.1 hk9)
  cases h0 : btw inst 1 60
  all_goals
    have H0 := Aside0.mk h0; clear h0
  all_goals
    go_enter Try.func31, Try.ntmps31
    simp only [CdNote.cells]
    go_wp2_with (first | (go_at_call 39; refine (within_b _ _ _ _).mono ?_; (first | rw [H0.out] | skip); rintro e w1 ⟨nd, rfl, rfl⟩) | (go_at_call 40; refine (rid_b _ _).mono ?_; (first | rw [H0.out] | skip); rintro e w1 ⟨nd, rfl, rfl⟩) | (go_at_call 41; refine (rstep_b _ _).mono ?_; (first | rw [H0.out] | skip); rintro e w1 ⟨nd, rfl, rfl⟩) | (go_at_call 43; refine (ris_b _ (by first | exact HS.out.1 | exact HS.out.2) _).mono ?_; (first | rw [H0.out] | skip); rintro e w1 ⟨nd, rfl, rfl⟩))
    all_goals (go_ret; refine ⟨by first | (simp [mayN, ownN, eqN, CdNote.nullD, H0.out, HK1.out, HK2.out, HK3.out, HK4.out, HK5.out, HK6.out, HK7.out, HK8.out, HK9.out]; done) | (simp [mayN, ownN, eqN, CdNote.nullD, H0.out, HK1.out, HK2.out, HK3.out, HK4.out, HK5.out, HK6.out, HK7.out, HK8.out, HK9.out, eqi, eqb]; done) | trace_state, ?_⟩; (repeat (with_reducible (first | exact below_two' _ _ _ | exact below_two _ _ _ | apply pw_below_drewN | apply Below.drew | refine below_s ?_ (by omega)))))

end Go.Proofs.Ytejaepohkcjoiaa.RefN

/- The document's MayNote: the walk (written by wip/gen/mkrefn.py). -/
namespace Go.Proofs.Ytejaepohkcjoiaa.RefN
open Go.RowKit Go.IntWalk Go.Proofs.Ytejaepohkcjoiaa.G Go.Proofs.YtejaepohkcjoiaaW.PrintWords Go.Proofs.YtejaepohkcjoiaaW.PrintLast Go.Proofs.YtejaepohkcjoiaaW.PrintMore Go.Proofs.Ytejaepohkcjoiaa.CdForm Go.Proofs.Ytejaepohkcjoiaa.CdMay
attribute [local go_sem high] eqA38

set_option linter.unusedSimpArgs false in
set_option linter.unusedVariables false in
set_option maxHeartbeats 8000000 in
set_option maxRecDepth 100000 in
theorem ref9 (w : World) (kind inst step state part cause : Int) (key name : ByteArray) (version : Int) (text : ByteArray) (hs : key.size ≤ 1000000000000000 ∧ name.size ≤ 1000000000000000) (hk : kind = 9) :
    Calls Try.prog 31 #[.agg (CdNote.cells ⟨kind, inst, step, state, part, cause, key, name, version, text⟩)] w fun e w' => e = .returned (.bool (mayN ⟨kind, inst, step, state, part, cause, key, name, version, text⟩)) ∧ Below w.heap.size w w' := by
  have HS := Aside0.mk hs
  clear hs
  subst hk
  cases h0 : btw inst 1 60
  all_goals cases h1 : (state == 4)
  all_goals cases h2 : (cause == 0)
  all_goals cases h3 : (state == 6)
  all_goals cases h4 : btw cause 1 4
  all_goals (try (exfalso; have a := eq_of_beq h1; have b := eq_of_beq h3; omega))
  all_goals
    have H0 := Aside0.mk h0; clear h0; have H1 := Aside0.mk h1; (first | (obtain rfl := eq_of_beq h1; clear h1; have N1 : Aside0 True := ⟨trivial⟩) | have N1 := Aside0.mk (beq_eq_false_iff_ne.1 h1)); have H2 := Aside0.mk h2; (first | (obtain rfl := eq_of_beq h2; clear h2; have N2 : Aside0 True := ⟨trivial⟩) | have N2 := Aside0.mk (beq_eq_false_iff_ne.1 h2)); have H3 := Aside0.mk h3; (first | (obtain rfl := eq_of_beq h3; clear h3; have N3 : Aside0 True := ⟨trivial⟩) | have N3 := Aside0.mk (beq_eq_false_iff_ne.1 h3)); have H4 := Aside0.mk h4; clear h4
  all_goals
    go_enter Try.func31, Try.ntmps31
    simp only [CdNote.cells]
    go_wp2_with (first | (go_at_call 39; refine (within_b _ _ _ _).mono ?_; (first | rw [H0.out] | rw [H1.out] | rw [H2.out] | rw [H3.out] | rw [H4.out] | skip); rintro e w1 ⟨nd, rfl, rfl⟩) | (go_at_call 40; refine (rid_b _ _).mono ?_; (first | rw [H0.out] | rw [H1.out] | rw [H2.out] | rw [H3.out] | rw [H4.out] | skip); rintro e w1 ⟨nd, rfl, rfl⟩) | (go_at_call 41; refine (rstep_b _ _).mono ?_; (first | rw [H0.out] | rw [H1.out] | rw [H2.out] | rw [H3.out] | rw [H4.out] | skip); rintro e w1 ⟨nd, rfl, rfl⟩) | (go_at_call 43; refine (ris_b _ (by first | exact HS.out.1 | exact HS.out.2) _).mono ?_; (first | rw [H0.out] | rw [H1.out] | rw [H2.out] | rw [H3.out] | rw [H4.out] | skip); rintro e w1 ⟨nd, rfl, rfl⟩))
    all_goals (go_ret; refine ⟨by first | (simp [mayN, ownN, eqN, CdNote.nullD, H0.out, H1.out, H2.out, H3.out, H4.out, N1.out, N2.out, N3.out]; done) | (simp [mayN, ownN, eqN, CdNote.nullD, H0.out, H1.out, H2.out, H3.out, H4.out, N1.out, N2.out, N3.out, eqi, eqb]; done) | trace_state, ?_⟩; (repeat (with_reducible (first | exact below_two' _ _ _ | exact below_two _ _ _ | apply pw_below_drewN | apply Below.drew | refine below_s ?_ (by omega)))))

end Go.Proofs.Ytejaepohkcjoiaa.RefN

/- The document's MayNote. -/
namespace Go.Proofs.Ytejaepohkcjoiaa.RefN
open Go.RowKit Go.Proofs.Ytejaepohkcjoiaa.CdMay
theorem mayNote_calls (w : World) (d : CdNote.D) (hs : d.key.size ≤ 1000000000000000 ∧ d.name.size ≤ 1000000000000000) :
    Calls Try.prog 31 #[.agg (CdNote.cells d)] w fun e w' => e = .returned (.bool (mayN d)) ∧ Below w.heap.size w w' := by
  obtain ⟨kind, inst, step, state, part, cause, key, name, version, text⟩ := d
  by_cases k1 : kind = 1
  · exact ref1 w _ _ _ _ _ _ _ _ _ _ hs k1
  by_cases k2 : kind = 2
  · exact ref2 w _ _ _ _ _ _ _ _ _ _ hs k2
  by_cases k3 : kind = 3
  · exact ref3 w _ _ _ _ _ _ _ _ _ _ hs k3
  by_cases k4 : kind = 4
  · exact ref4 w _ _ _ _ _ _ _ _ _ _ hs k4
  by_cases k5 : kind = 5
  · exact ref5 w _ _ _ _ _ _ _ _ _ _ hs k5
  by_cases k6 : kind = 6
  · exact ref6 w _ _ _ _ _ _ _ _ _ _ hs k6
  by_cases k7 : kind = 7
  · exact ref7 w _ _ _ _ _ _ _ _ _ _ hs k7
  by_cases k8 : kind = 8
  · exact ref8 w _ _ _ _ _ _ _ _ _ _ hs k8
  by_cases k9 : kind = 9
  · exact ref9 w _ _ _ _ _ _ _ _ _ _ hs k9
  exact refz w _ _ _ _ _ _ _ _ _ _ hs ⟨beq_eq_false_iff_ne.2 k1, beq_eq_false_iff_ne.2 k2, beq_eq_false_iff_ne.2 k3, beq_eq_false_iff_ne.2 k4, beq_eq_false_iff_ne.2 k5, beq_eq_false_iff_ne.2 k6, beq_eq_false_iff_ne.2 k7, beq_eq_false_iff_ne.2 k8, beq_eq_false_iff_ne.2 k9⟩
end Go.Proofs.Ytejaepohkcjoiaa.RefN

/- The document's Note: the walk (written by wip/gen/mkrefnote.py). -/
namespace Go.Proofs.Ytejaepohkcjoiaa.RefN
open Go.RowKit Go.IntWalk Go.Proofs.Ytejaepohkcjoiaa.G Go.Proofs.YtejaepohkcjoiaaW.PrintWords Go.Proofs.YtejaepohkcjoiaaW.PrintLast Go.Proofs.YtejaepohkcjoiaaW.PrintMore Go.Proofs.Ytejaepohkcjoiaa.CdForm Go.Proofs.Ytejaepohkcjoiaa.CdMay
theorem ref_num (a : Int) (k : Nat) (hk : 20 ≤ k) : odysseyref03_Num.f k a = some (Pk.num a) := by
  unfold odysseyref03_Num.f
  obtain ⟨k, rfl⟩ : ∃ m, k = m + 1 := ⟨k - 1, by omega⟩
  by_cases h0 : a < 0
  · rw [if_pos h0, Pk.num_bad (Or.inl h0), odysseyref03_Num.j0, if_pos rfl]
  · rw [if_neg h0]
    by_cases h1 : a > 1125899906842624
    · rw [Pk.num_bad (Or.inr h1), odysseyref03_Num.j0, if_pos (by simpa using h1)]
    · rw [Pk.num_ok (by omega) (by omega), odysseyref03_Num.j0, if_neg (by simpa using h1)]
      obtain ⟨n, rfl⟩ := Int.eq_ofNat_of_zero_le (show 0 ≤ a by omega)
      rw [Pk.ref_loop odysseyref03_Num.l0 (fun k x0 x4 => by rw [odysseyref03_Num.l0]) 7 n ⟨#[]⟩ k (by omega) (by omega) (by omega) (by simp [ByteArray.size]), Int.toNat_natCast]
      rfl

theorem ref_text (s : ByteArray) (k : Nat) (hk : 20 ≤ k) : odysseyref03_Text.f k s = some (Pk.text s) := by
  unfold odysseyref03_Text.f Pk.text
  by_cases h0 : s.size > 2000
  · rw [if_pos (by omega), if_pos h0]
  · rw [if_neg (by omega), if_neg h0, ref_num _ k hk, Option.bind_some, Pk.num_ok (by omega) (by omega)]
    have hl := Pk.enc_len8 (n := s.size) (by omega)
    rw [Int.toNat_natCast, if_pos (by show (Pk.enc s.size).toArray.size + s.size ≤ _; rw [List.size_toArray]; omega), Pk.mk_append]

def enB (x : Int) : ByteArray := ⟨(en x).toArray⟩
theorem enB_size {x : Int} (h : 0 ≤ x ∧ x ≤ 1125899906842624) : (enB x).size ≤ 8 := by
  have := Pk.enc_len8 (n := x.toNat) (by omega)
  show (en x).toArray.size ≤ 8
  simpa [en] using this
theorem num_en {x : Int} (h : 0 ≤ x ∧ x ≤ 1125899906842624) (k : Nat) (hk : 20 ≤ k) : odysseyref03_Num.f k x = some (enB x, 0) := by
  rw [ref_num x k hk, Pk.num_ok h.1 h.2]
  rfl
theorem empty_cat (b : ByteArray) : (⟨#[]⟩ : ByteArray) ++ b = b := by
  apply ByteArray.ext
  rw [ByteArray.data_append]
  simp
theorem nums1 {x : Int} (h : 0 ≤ x ∧ x ≤ 1125899906842624) : odysseyref07_numbers.f 40 [x] = some (enB x) := by
  have hs := enB_size h
  have e0 : wrap64 (0 + 1) = 1 := by unfold wrap64; omega
  have z : (⟨#[]⟩ : ByteArray).size = 0 := rfl
  unfold odysseyref07_numbers.f
  rw [odysseyref07_numbers.l0, if_pos (by simp), if_pos (by omega)]
  rw [show rd [x] 0 = x from rfl, num_en h 39 (by decide), Option.bind_some, if_pos (by show _ + (enB x).size ≤ _; rw [z]; omega), empty_cat, e0, odysseyref07_numbers.l0, if_neg (by simp)]
theorem nums2 {x y : Int} (h : 0 ≤ x ∧ x ≤ 1125899906842624) (h2 : 0 ≤ y ∧ y ≤ 1125899906842624) : odysseyref07_numbers.f 40 [x, y] = some (enB x ++ enB y) := by
  have hs := enB_size h
  have hs2 := enB_size h2
  have e0 : wrap64 (0 + 1) = 1 := by unfold wrap64; omega
  have e1 : wrap64 (1 + 1) = 2 := by unfold wrap64; omega
  have z : (⟨#[]⟩ : ByteArray).size = 0 := rfl
  unfold odysseyref07_numbers.f
  rw [odysseyref07_numbers.l0, if_pos (by simp), if_pos (by omega)]
  rw [show rd [x, y] 0 = x from rfl, num_en h 39 (by decide), Option.bind_some, if_pos (by show _ + (enB x).size ≤ _; rw [z]; omega), empty_cat, e0, odysseyref07_numbers.l0, if_pos (by simp), if_pos (by omega)]
  rw [show rd [x, y] 1 = y from rfl, num_en h2 38 (by decide), Option.bind_some, if_pos (by show (enB x).size + (enB y).size ≤ _; omega), e1, odysseyref07_numbers.l0, if_neg (by simp)]
theorem nums_calls1 (w : World) (g : Nat) (x : Int) (h : 0 ≤ x ∧ x ≤ 1125899906842624) (hc : w.cell? ⟨g, 0, none⟩ = some (.int .i64 x)) :
    Calls Try.prog 27 #[.slice (some ⟨g, 0, none⟩) 1 1] w fun e w' => e = .returned (.string (enB x)) ∧ Below w.heap.size w w' := by
  refine odysseyref07_numbers.calls 40 (some ⟨g, 0, none⟩) 1 [x] _ w (Kd.C_of_reads (d := (0 : Int)) ⟨rfl, by simp, fun _ => ⟨_, rfl, fun j hj => ?_⟩⟩) (Nat.le_refl _) (nums1 h)
  have hj : j < 1 := hj
  obtain rfl : j = 0 := by omega
  exact hc
theorem nums_calls2 (w : World) (g : Nat) (x y : Int) (h : 0 ≤ x ∧ x ≤ 1125899906842624) (h2 : 0 ≤ y ∧ y ≤ 1125899906842624) (hc : w.cell? ⟨g, 0, none⟩ = some (.int .i64 x)) (hc2 : w.cell? ⟨g, 1, none⟩ = some (.int .i64 y)) :
    Calls Try.prog 27 #[.slice (some ⟨g, 0, none⟩) 2 2] w fun e w' => e = .returned (.string (enB x ++ enB y)) ∧ Below w.heap.size w w' := by
  refine odysseyref07_numbers.calls 40 (some ⟨g, 0, none⟩) 2 [x, y] _ w (Kd.C_of_reads (d := (0 : Int)) ⟨rfl, by simp, fun _ => ⟨_, rfl, fun j hj => ?_⟩⟩) (Nat.le_refl _) (nums2 h h2)
  have hj : j < 2 := hj
  rcases (by omega : j = 0 ∨ j = 1) with rfl | rfl
  · exact hc
  · exact hc2
theorem text_calls (w : World) (s : ByteArray) (h : ¬ s.size > 2000) : Calls Try.prog 32 #[.string s] w fun e w' => e = .returned (.tuple #[.string ⟨(Pk.item s).toArray⟩, .int .i64 0]) ∧ Below w.heap.size w w' := by
  have hr := ref_text s 20 (Nat.le_refl _)
  rw [Pk.text_ok h] at hr
  exact odysseyref03_Text.calls 20 s _ _ w hr
theorem cell_b2 {w1 w2 : World} {o : Obj} {a : Addr} {v : Value} (h : w1.cell? a = some v) (hb : Below (w1.alloc o).heap.size (w1.alloc o) w2) : w2.cell? a = some v := cell_below hb (cell_below (below_1 w1 o) h)
theorem below_b2 {w w1 w2 : World} {o : Obj} (h : Below w.heap.size w w1) (hb : Below (w1.alloc o).heap.size (w1.alloc o) w2) : Below w.heap.size w w2 := below_on (below_on h (below_1 w1 o)) hb

set_option linter.unusedSimpArgs false in
set_option linter.unusedVariables false in
set_option maxHeartbeats 8000000 in
set_option maxRecDepth 100000 in
theorem note1 (w : World) (kind inst step state part cause : Int) (key name : ByteArray) (version : Int) (text : ByteArray) (hs : key.size ≤ 1000000000000000 ∧ name.size ≤ 1000000000000000) (hm : mayN ⟨kind, inst, step, state, part, cause, key, name, version, text⟩ = true) (hk : kind = 1) :
    Calls Try.prog 19 #[.agg (CdNote.cells ⟨kind, inst, step, state, part, cause, key, name, version, text⟩)] w fun e w' => e = .returned (wres true ⟨#[78]⟩ (CdNote.form ⟨kind, inst, step, state, part, cause, key, name, version, text⟩)) ∧ Below w.heap.size w w' := by
  have HS := Aside0.mk (And.intro hs (And.intro hm (mayN_norm hm).1))
  clear hs hm
  subst hk
  go_enter Try.func19, Try.ntmps19
  simp only [CdNote.cells]
  go_wp2_with fail
  refine (mayNote_calls _ ⟨1, inst, step, state, part, cause, key, name, version, text⟩ HS.out.1).mono ?_
  rw [HS.out.2.1]
  rintro e w1 ⟨rfl, hb⟩
  have HB := Aside0.mk (below_on (below_1 w _) hb)
  have hc0 : w1.cell? ⟨w.heap.size, 0, none⟩ = some (.int .i64 1) := row_cell (row_below hb (row_1' w _)) rfl
  have hc1 : w1.cell? ⟨w.heap.size, 1, none⟩ = some (.int .i64 inst) := row_cell (row_below hb (row_1' w _)) rfl
  have hc2 : w1.cell? ⟨w.heap.size, 2, none⟩ = some (.int .i64 step) := row_cell (row_below hb (row_1' w _)) rfl
  have hc3 : w1.cell? ⟨w.heap.size, 3, none⟩ = some (.int .i64 state) := row_cell (row_below hb (row_1' w _)) rfl
  have hc4 : w1.cell? ⟨w.heap.size, 4, none⟩ = some (.int .i64 part) := row_cell (row_below hb (row_1' w _)) rfl
  have hc5 : w1.cell? ⟨w.heap.size, 5, none⟩ = some (.int .i64 cause) := row_cell (row_below hb (row_1' w _)) rfl
  have hc6 : w1.cell? ⟨w.heap.size, 6, none⟩ = some (.string key) := row_cell (row_below hb (row_1' w _)) rfl
  have hc7 : w1.cell? ⟨w.heap.size, 7, none⟩ = some (.string name) := row_cell (row_below hb (row_1' w _)) rfl
  have hc8 : w1.cell? ⟨w.heap.size, 8, none⟩ = some (.int .i64 version) := row_cell (row_below hb (row_1' w _)) rfl
  have hc9 : w1.cell? ⟨w.heap.size, 9, none⟩ = some (.string text) := row_cell (row_below hb (row_1' w _)) rfl
  clear hb
  go_wp2_with (first | (go_at_call 27; (with_reducible show Calls _ _ #[.slice _ 1 1] _ _); refine (nums_calls1 _ _ _ (by first | decide | exact HS.out.2.2.kind | exact HS.out.2.2.inst | exact HS.out.2.2.step | exact HS.out.2.2.state | exact HS.out.2.2.part | exact HS.out.2.2.cause | exact HS.out.2.2.version) (row_cell (row_1' _ _) rfl)).mono ?_; rintro e w2 ⟨rfl, hb⟩; replace HB := Aside0.mk (below_b2 HB.out hb); replace hc0 := cell_b2 hc0 hb; replace hc1 := cell_b2 hc1 hb; replace hc2 := cell_b2 hc2 hb; replace hc3 := cell_b2 hc3 hb; replace hc4 := cell_b2 hc4 hb; replace hc5 := cell_b2 hc5 hb; replace hc6 := cell_b2 hc6 hb; replace hc7 := cell_b2 hc7 hb; replace hc8 := cell_b2 hc8 hb; replace hc9 := cell_b2 hc9 hb; clear hb) | (go_at_call 27; (with_reducible show Calls _ _ #[.slice _ 2 2] _ _); refine (nums_calls2 _ _ _ _ (by first | decide | exact HS.out.2.2.kind | exact HS.out.2.2.inst | exact HS.out.2.2.step | exact HS.out.2.2.state | exact HS.out.2.2.part | exact HS.out.2.2.cause | exact HS.out.2.2.version) (by first | decide | exact HS.out.2.2.kind | exact HS.out.2.2.inst | exact HS.out.2.2.step | exact HS.out.2.2.state | exact HS.out.2.2.part | exact HS.out.2.2.cause | exact HS.out.2.2.version) (row_cell (row_1' _ _) rfl) (row_cell (row_1' _ _) rfl)).mono ?_; rintro e w2 ⟨rfl, hb⟩; replace HB := Aside0.mk (below_b2 HB.out hb); replace hc0 := cell_b2 hc0 hb; replace hc1 := cell_b2 hc1 hb; replace hc2 := cell_b2 hc2 hb; replace hc3 := cell_b2 hc3 hb; replace hc4 := cell_b2 hc4 hb; replace hc5 := cell_b2 hc5 hb; replace hc6 := cell_b2 hc6 hb; replace hc7 := cell_b2 hc7 hb; replace hc8 := cell_b2 hc8 hb; replace hc9 := cell_b2 hc9 hb; clear hb) | (go_at_call 32; refine (text_calls _ _ (by first | exact HS.out.2.2.text | exact HS.out.2.2.key | exact HS.out.2.2.name)).mono ?_; rintro e w2 ⟨rfl, hb⟩; replace HB := Aside0.mk (below_on HB.out hb); replace hc0 := cell_below hb hc0; replace hc1 := cell_below hb hc1; replace hc2 := cell_below hb hc2; replace hc3 := cell_below hb hc3; replace hc4 := cell_below hb hc4; replace hc5 := cell_below hb hc5; replace hc6 := cell_below hb hc6; replace hc7 := cell_below hb hc7; replace hc8 := cell_below hb hc8; replace hc9 := cell_below hb hc9; clear hb))
  all_goals (first | (exfalso; have q0 := enB_size (x := 1) (by decide); have q1 := enB_size (x := inst) HS.out.2.2.inst; have q2 := enB_size (x := step) HS.out.2.2.step; have q3 := enB_size (x := state) HS.out.2.2.state; have q4 := enB_size (x := part) HS.out.2.2.part; have q5 := enB_size (x := cause) HS.out.2.2.cause; have q6 := enB_size (x := version) HS.out.2.2.version; have i0 := Pk.item_len (Nat.not_lt.1 HS.out.2.2.key); have i1 := Pk.item_len (Nat.not_lt.1 HS.out.2.2.name); have i2 := Pk.item_len (Nat.not_lt.1 HS.out.2.2.text); simp only [] at *; omega) | (exfalso; have q0 := enB_size (x := 1) (by decide); have q1 := enB_size (x := inst) HS.out.2.2.inst; have q2 := enB_size (x := step) HS.out.2.2.step; have q3 := enB_size (x := state) HS.out.2.2.state; have q4 := enB_size (x := part) HS.out.2.2.part; have q5 := enB_size (x := cause) HS.out.2.2.cause; have q6 := enB_size (x := version) HS.out.2.2.version; have i0 := Pk.item_len (Nat.not_lt.1 HS.out.2.2.key); have i1 := Pk.item_len (Nat.not_lt.1 HS.out.2.2.name); have i2 := Pk.item_len (Nat.not_lt.1 HS.out.2.2.text); omega) | skip)
  go_returns
  refine ⟨congrArg (fun b => Ending.returned (Value.tuple #[.string b, .int .i64 0])) ?_, HB.out⟩
  apply ByteArray.ext
  apply Array.ext'
  simp [CdNote.form, enB, ByteArray.data_append]

set_option linter.unusedSimpArgs false in
set_option linter.unusedVariables false in
set_option maxHeartbeats 8000000 in
set_option maxRecDepth 100000 in
theorem note2 (w : World) (kind inst step state part cause : Int) (key name : ByteArray) (version : Int) (text : ByteArray) (hs : key.size ≤ 1000000000000000 ∧ name.size ≤ 1000000000000000) (hm : mayN ⟨kind, inst, step, state, part, cause, key, name, version, text⟩ = true) (hk : kind = 2) :
    Calls Try.prog 19 #[.agg (CdNote.cells ⟨kind, inst, step, state, part, cause, key, name, version, text⟩)] w fun e w' => e = .returned (wres true ⟨#[78]⟩ (CdNote.form ⟨kind, inst, step, state, part, cause, key, name, version, text⟩)) ∧ Below w.heap.size w w' := by
  have HS := Aside0.mk (And.intro hs (And.intro hm (mayN_norm hm).1))
  clear hs hm
  subst hk
  go_enter Try.func19, Try.ntmps19
  simp only [CdNote.cells]
  go_wp2_with fail
  refine (mayNote_calls _ ⟨2, inst, step, state, part, cause, key, name, version, text⟩ HS.out.1).mono ?_
  rw [HS.out.2.1]
  rintro e w1 ⟨rfl, hb⟩
  have HB := Aside0.mk (below_on (below_1 w _) hb)
  have hc0 : w1.cell? ⟨w.heap.size, 0, none⟩ = some (.int .i64 2) := row_cell (row_below hb (row_1' w _)) rfl
  have hc1 : w1.cell? ⟨w.heap.size, 1, none⟩ = some (.int .i64 inst) := row_cell (row_below hb (row_1' w _)) rfl
  have hc2 : w1.cell? ⟨w.heap.size, 2, none⟩ = some (.int .i64 step) := row_cell (row_below hb (row_1' w _)) rfl
  have hc3 : w1.cell? ⟨w.heap.size, 3, none⟩ = some (.int .i64 state) := row_cell (row_below hb (row_1' w _)) rfl
  have hc4 : w1.cell? ⟨w.heap.size, 4, none⟩ = some (.int .i64 part) := row_cell (row_below hb (row_1' w _)) rfl
  have hc5 : w1.cell? ⟨w.heap.size, 5, none⟩ = some (.int .i64 cause) := row_cell (row_below hb (row_1' w _)) rfl
  have hc6 : w1.cell? ⟨w.heap.size, 6, none⟩ = some (.string key) := row_cell (row_below hb (row_1' w _)) rfl
  have hc7 : w1.cell? ⟨w.heap.size, 7, none⟩ = some (.string name) := row_cell (row_below hb (row_1' w _)) rfl
  have hc8 : w1.cell? ⟨w.heap.size, 8, none⟩ = some (.int .i64 version) := row_cell (row_below hb (row_1' w _)) rfl
  have hc9 : w1.cell? ⟨w.heap.size, 9, none⟩ = some (.string text) := row_cell (row_below hb (row_1' w _)) rfl
  clear hb
  go_wp2_with (first | (go_at_call 27; (with_reducible show Calls _ _ #[.slice _ 1 1] _ _); refine (nums_calls1 _ _ _ (by first | decide | exact HS.out.2.2.kind | exact HS.out.2.2.inst | exact HS.out.2.2.step | exact HS.out.2.2.state | exact HS.out.2.2.part | exact HS.out.2.2.cause | exact HS.out.2.2.version) (row_cell (row_1' _ _) rfl)).mono ?_; rintro e w2 ⟨rfl, hb⟩; replace HB := Aside0.mk (below_b2 HB.out hb); replace hc0 := cell_b2 hc0 hb; replace hc1 := cell_b2 hc1 hb; replace hc2 := cell_b2 hc2 hb; replace hc3 := cell_b2 hc3 hb; replace hc4 := cell_b2 hc4 hb; replace hc5 := cell_b2 hc5 hb; replace hc6 := cell_b2 hc6 hb; replace hc7 := cell_b2 hc7 hb; replace hc8 := cell_b2 hc8 hb; replace hc9 := cell_b2 hc9 hb; clear hb) | (go_at_call 27; (with_reducible show Calls _ _ #[.slice _ 2 2] _ _); refine (nums_calls2 _ _ _ _ (by first | decide | exact HS.out.2.2.kind | exact HS.out.2.2.inst | exact HS.out.2.2.step | exact HS.out.2.2.state | exact HS.out.2.2.part | exact HS.out.2.2.cause | exact HS.out.2.2.version) (by first | decide | exact HS.out.2.2.kind | exact HS.out.2.2.inst | exact HS.out.2.2.step | exact HS.out.2.2.state | exact HS.out.2.2.part | exact HS.out.2.2.cause | exact HS.out.2.2.version) (row_cell (row_1' _ _) rfl) (row_cell (row_1' _ _) rfl)).mono ?_; rintro e w2 ⟨rfl, hb⟩; replace HB := Aside0.mk (below_b2 HB.out hb); replace hc0 := cell_b2 hc0 hb; replace hc1 := cell_b2 hc1 hb; replace hc2 := cell_b2 hc2 hb; replace hc3 := cell_b2 hc3 hb; replace hc4 := cell_b2 hc4 hb; replace hc5 := cell_b2 hc5 hb; replace hc6 := cell_b2 hc6 hb; replace hc7 := cell_b2 hc7 hb; replace hc8 := cell_b2 hc8 hb; replace hc9 := cell_b2 hc9 hb; clear hb) | (go_at_call 32; refine (text_calls _ _ (by first | exact HS.out.2.2.text | exact HS.out.2.2.key | exact HS.out.2.2.name)).mono ?_; rintro e w2 ⟨rfl, hb⟩; replace HB := Aside0.mk (below_on HB.out hb); replace hc0 := cell_below hb hc0; replace hc1 := cell_below hb hc1; replace hc2 := cell_below hb hc2; replace hc3 := cell_below hb hc3; replace hc4 := cell_below hb hc4; replace hc5 := cell_below hb hc5; replace hc6 := cell_below hb hc6; replace hc7 := cell_below hb hc7; replace hc8 := cell_below hb hc8; replace hc9 := cell_below hb hc9; clear hb))
  all_goals (first | (exfalso; have q0 := enB_size (x := 2) (by decide); have q1 := enB_size (x := inst) HS.out.2.2.inst; have q2 := enB_size (x := step) HS.out.2.2.step; have q3 := enB_size (x := state) HS.out.2.2.state; have q4 := enB_size (x := part) HS.out.2.2.part; have q5 := enB_size (x := cause) HS.out.2.2.cause; have q6 := enB_size (x := version) HS.out.2.2.version; have i0 := Pk.item_len (Nat.not_lt.1 HS.out.2.2.key); have i1 := Pk.item_len (Nat.not_lt.1 HS.out.2.2.name); have i2 := Pk.item_len (Nat.not_lt.1 HS.out.2.2.text); simp only [] at *; omega) | (exfalso; have q0 := enB_size (x := 2) (by decide); have q1 := enB_size (x := inst) HS.out.2.2.inst; have q2 := enB_size (x := step) HS.out.2.2.step; have q3 := enB_size (x := state) HS.out.2.2.state; have q4 := enB_size (x := part) HS.out.2.2.part; have q5 := enB_size (x := cause) HS.out.2.2.cause; have q6 := enB_size (x := version) HS.out.2.2.version; have i0 := Pk.item_len (Nat.not_lt.1 HS.out.2.2.key); have i1 := Pk.item_len (Nat.not_lt.1 HS.out.2.2.name); have i2 := Pk.item_len (Nat.not_lt.1 HS.out.2.2.text); omega) | skip)
  go_returns
  refine ⟨congrArg (fun b => Ending.returned (Value.tuple #[.string b, .int .i64 0])) ?_, HB.out⟩
  apply ByteArray.ext
  apply Array.ext'
  simp [CdNote.form, enB, ByteArray.data_append]

set_option linter.unusedSimpArgs false in
set_option linter.unusedVariables false in
set_option maxHeartbeats 8000000 in
set_option maxRecDepth 100000 in
theorem note3 (w : World) (kind inst step state part cause : Int) (key name : ByteArray) (version : Int) (text : ByteArray) (hs : key.size ≤ 1000000000000000 ∧ name.size ≤ 1000000000000000) (hm : mayN ⟨kind, inst, step, state, part, cause, key, name, version, text⟩ = true) (hk : kind = 3) :
    Calls Try.prog 19 #[.agg (CdNote.cells ⟨kind, inst, step, state, part, cause, key, name, version, text⟩)] w fun e w' => e = .returned (wres true ⟨#[78]⟩ (CdNote.form ⟨kind, inst, step, state, part, cause, key, name, version, text⟩)) ∧ Below w.heap.size w w' := by
  have HS := Aside0.mk (And.intro hs (And.intro hm (mayN_norm hm).1))
  clear hs hm
  subst hk
  go_enter Try.func19, Try.ntmps19
  simp only [CdNote.cells]
  go_wp2_with fail
  refine (mayNote_calls _ ⟨3, inst, step, state, part, cause, key, name, version, text⟩ HS.out.1).mono ?_
  rw [HS.out.2.1]
  rintro e w1 ⟨rfl, hb⟩
  have HB := Aside0.mk (below_on (below_1 w _) hb)
  have hc0 : w1.cell? ⟨w.heap.size, 0, none⟩ = some (.int .i64 3) := row_cell (row_below hb (row_1' w _)) rfl
  have hc1 : w1.cell? ⟨w.heap.size, 1, none⟩ = some (.int .i64 inst) := row_cell (row_below hb (row_1' w _)) rfl
  have hc2 : w1.cell? ⟨w.heap.size, 2, none⟩ = some (.int .i64 step) := row_cell (row_below hb (row_1' w _)) rfl
  have hc3 : w1.cell? ⟨w.heap.size, 3, none⟩ = some (.int .i64 state) := row_cell (row_below hb (row_1' w _)) rfl
  have hc4 : w1.cell? ⟨w.heap.size, 4, none⟩ = some (.int .i64 part) := row_cell (row_below hb (row_1' w _)) rfl
  have hc5 : w1.cell? ⟨w.heap.size, 5, none⟩ = some (.int .i64 cause) := row_cell (row_below hb (row_1' w _)) rfl
  have hc6 : w1.cell? ⟨w.heap.size, 6, none⟩ = some (.string key) := row_cell (row_below hb (row_1' w _)) rfl
  have hc7 : w1.cell? ⟨w.heap.size, 7, none⟩ = some (.string name) := row_cell (row_below hb (row_1' w _)) rfl
  have hc8 : w1.cell? ⟨w.heap.size, 8, none⟩ = some (.int .i64 version) := row_cell (row_below hb (row_1' w _)) rfl
  have hc9 : w1.cell? ⟨w.heap.size, 9, none⟩ = some (.string text) := row_cell (row_below hb (row_1' w _)) rfl
  clear hb
  go_wp2_with (first | (go_at_call 27; (with_reducible show Calls _ _ #[.slice _ 1 1] _ _); refine (nums_calls1 _ _ _ (by first | decide | exact HS.out.2.2.kind | exact HS.out.2.2.inst | exact HS.out.2.2.step | exact HS.out.2.2.state | exact HS.out.2.2.part | exact HS.out.2.2.cause | exact HS.out.2.2.version) (row_cell (row_1' _ _) rfl)).mono ?_; rintro e w2 ⟨rfl, hb⟩; replace HB := Aside0.mk (below_b2 HB.out hb); replace hc0 := cell_b2 hc0 hb; replace hc1 := cell_b2 hc1 hb; replace hc2 := cell_b2 hc2 hb; replace hc3 := cell_b2 hc3 hb; replace hc4 := cell_b2 hc4 hb; replace hc5 := cell_b2 hc5 hb; replace hc6 := cell_b2 hc6 hb; replace hc7 := cell_b2 hc7 hb; replace hc8 := cell_b2 hc8 hb; replace hc9 := cell_b2 hc9 hb; clear hb) | (go_at_call 27; (with_reducible show Calls _ _ #[.slice _ 2 2] _ _); refine (nums_calls2 _ _ _ _ (by first | decide | exact HS.out.2.2.kind | exact HS.out.2.2.inst | exact HS.out.2.2.step | exact HS.out.2.2.state | exact HS.out.2.2.part | exact HS.out.2.2.cause | exact HS.out.2.2.version) (by first | decide | exact HS.out.2.2.kind | exact HS.out.2.2.inst | exact HS.out.2.2.step | exact HS.out.2.2.state | exact HS.out.2.2.part | exact HS.out.2.2.cause | exact HS.out.2.2.version) (row_cell (row_1' _ _) rfl) (row_cell (row_1' _ _) rfl)).mono ?_; rintro e w2 ⟨rfl, hb⟩; replace HB := Aside0.mk (below_b2 HB.out hb); replace hc0 := cell_b2 hc0 hb; replace hc1 := cell_b2 hc1 hb; replace hc2 := cell_b2 hc2 hb; replace hc3 := cell_b2 hc3 hb; replace hc4 := cell_b2 hc4 hb; replace hc5 := cell_b2 hc5 hb; replace hc6 := cell_b2 hc6 hb; replace hc7 := cell_b2 hc7 hb; replace hc8 := cell_b2 hc8 hb; replace hc9 := cell_b2 hc9 hb; clear hb) | (go_at_call 32; refine (text_calls _ _ (by first | exact HS.out.2.2.text | exact HS.out.2.2.key | exact HS.out.2.2.name)).mono ?_; rintro e w2 ⟨rfl, hb⟩; replace HB := Aside0.mk (below_on HB.out hb); replace hc0 := cell_below hb hc0; replace hc1 := cell_below hb hc1; replace hc2 := cell_below hb hc2; replace hc3 := cell_below hb hc3; replace hc4 := cell_below hb hc4; replace hc5 := cell_below hb hc5; replace hc6 := cell_below hb hc6; replace hc7 := cell_below hb hc7; replace hc8 := cell_below hb hc8; replace hc9 := cell_below hb hc9; clear hb))
  all_goals (first | (exfalso; have q0 := enB_size (x := 3) (by decide); have q1 := enB_size (x := inst) HS.out.2.2.inst; have q2 := enB_size (x := step) HS.out.2.2.step; have q3 := enB_size (x := state) HS.out.2.2.state; have q4 := enB_size (x := part) HS.out.2.2.part; have q5 := enB_size (x := cause) HS.out.2.2.cause; have q6 := enB_size (x := version) HS.out.2.2.version; have i0 := Pk.item_len (Nat.not_lt.1 HS.out.2.2.key); have i1 := Pk.item_len (Nat.not_lt.1 HS.out.2.2.name); have i2 := Pk.item_len (Nat.not_lt.1 HS.out.2.2.text); simp only [] at *; omega) | (exfalso; have q0 := enB_size (x := 3) (by decide); have q1 := enB_size (x := inst) HS.out.2.2.inst; have q2 := enB_size (x := step) HS.out.2.2.step; have q3 := enB_size (x := state) HS.out.2.2.state; have q4 := enB_size (x := part) HS.out.2.2.part; have q5 := enB_size (x := cause) HS.out.2.2.cause; have q6 := enB_size (x := version) HS.out.2.2.version; have i0 := Pk.item_len (Nat.not_lt.1 HS.out.2.2.key); have i1 := Pk.item_len (Nat.not_lt.1 HS.out.2.2.name); have i2 := Pk.item_len (Nat.not_lt.1 HS.out.2.2.text); omega) | skip)
  go_returns
  refine ⟨congrArg (fun b => Ending.returned (Value.tuple #[.string b, .int .i64 0])) ?_, HB.out⟩
  apply ByteArray.ext
  apply Array.ext'
  simp [CdNote.form, enB, ByteArray.data_append]

set_option linter.unusedSimpArgs false in
set_option linter.unusedVariables false in
set_option maxHeartbeats 8000000 in
set_option maxRecDepth 100000 in
theorem note4 (w : World) (kind inst step state part cause : Int) (key name : ByteArray) (version : Int) (text : ByteArray) (hs : key.size ≤ 1000000000000000 ∧ name.size ≤ 1000000000000000) (hm : mayN ⟨kind, inst, step, state, part, cause, key, name, version, text⟩ = true) (hk : kind = 4) :
    Calls Try.prog 19 #[.agg (CdNote.cells ⟨kind, inst, step, state, part, cause, key, name, version, text⟩)] w fun e w' => e = .returned (wres true ⟨#[78]⟩ (CdNote.form ⟨kind, inst, step, state, part, cause, key, name, version, text⟩)) ∧ Below w.heap.size w w' := by
  have HS := Aside0.mk (And.intro hs (And.intro hm (mayN_norm hm).1))
  clear hs hm
  subst hk
  go_enter Try.func19, Try.ntmps19
  simp only [CdNote.cells]
  go_wp2_with fail
  refine (mayNote_calls _ ⟨4, inst, step, state, part, cause, key, name, version, text⟩ HS.out.1).mono ?_
  rw [HS.out.2.1]
  rintro e w1 ⟨rfl, hb⟩
  have HB := Aside0.mk (below_on (below_1 w _) hb)
  have hc0 : w1.cell? ⟨w.heap.size, 0, none⟩ = some (.int .i64 4) := row_cell (row_below hb (row_1' w _)) rfl
  have hc1 : w1.cell? ⟨w.heap.size, 1, none⟩ = some (.int .i64 inst) := row_cell (row_below hb (row_1' w _)) rfl
  have hc2 : w1.cell? ⟨w.heap.size, 2, none⟩ = some (.int .i64 step) := row_cell (row_below hb (row_1' w _)) rfl
  have hc3 : w1.cell? ⟨w.heap.size, 3, none⟩ = some (.int .i64 state) := row_cell (row_below hb (row_1' w _)) rfl
  have hc4 : w1.cell? ⟨w.heap.size, 4, none⟩ = some (.int .i64 part) := row_cell (row_below hb (row_1' w _)) rfl
  have hc5 : w1.cell? ⟨w.heap.size, 5, none⟩ = some (.int .i64 cause) := row_cell (row_below hb (row_1' w _)) rfl
  have hc6 : w1.cell? ⟨w.heap.size, 6, none⟩ = some (.string key) := row_cell (row_below hb (row_1' w _)) rfl
  have hc7 : w1.cell? ⟨w.heap.size, 7, none⟩ = some (.string name) := row_cell (row_below hb (row_1' w _)) rfl
  have hc8 : w1.cell? ⟨w.heap.size, 8, none⟩ = some (.int .i64 version) := row_cell (row_below hb (row_1' w _)) rfl
  have hc9 : w1.cell? ⟨w.heap.size, 9, none⟩ = some (.string text) := row_cell (row_below hb (row_1' w _)) rfl
  clear hb
  go_wp2_with (first | (go_at_call 27; (with_reducible show Calls _ _ #[.slice _ 1 1] _ _); refine (nums_calls1 _ _ _ (by first | decide | exact HS.out.2.2.kind | exact HS.out.2.2.inst | exact HS.out.2.2.step | exact HS.out.2.2.state | exact HS.out.2.2.part | exact HS.out.2.2.cause | exact HS.out.2.2.version) (row_cell (row_1' _ _) rfl)).mono ?_; rintro e w2 ⟨rfl, hb⟩; replace HB := Aside0.mk (below_b2 HB.out hb); replace hc0 := cell_b2 hc0 hb; replace hc1 := cell_b2 hc1 hb; replace hc2 := cell_b2 hc2 hb; replace hc3 := cell_b2 hc3 hb; replace hc4 := cell_b2 hc4 hb; replace hc5 := cell_b2 hc5 hb; replace hc6 := cell_b2 hc6 hb; replace hc7 := cell_b2 hc7 hb; replace hc8 := cell_b2 hc8 hb; replace hc9 := cell_b2 hc9 hb; clear hb) | (go_at_call 27; (with_reducible show Calls _ _ #[.slice _ 2 2] _ _); refine (nums_calls2 _ _ _ _ (by first | decide | exact HS.out.2.2.kind | exact HS.out.2.2.inst | exact HS.out.2.2.step | exact HS.out.2.2.state | exact HS.out.2.2.part | exact HS.out.2.2.cause | exact HS.out.2.2.version) (by first | decide | exact HS.out.2.2.kind | exact HS.out.2.2.inst | exact HS.out.2.2.step | exact HS.out.2.2.state | exact HS.out.2.2.part | exact HS.out.2.2.cause | exact HS.out.2.2.version) (row_cell (row_1' _ _) rfl) (row_cell (row_1' _ _) rfl)).mono ?_; rintro e w2 ⟨rfl, hb⟩; replace HB := Aside0.mk (below_b2 HB.out hb); replace hc0 := cell_b2 hc0 hb; replace hc1 := cell_b2 hc1 hb; replace hc2 := cell_b2 hc2 hb; replace hc3 := cell_b2 hc3 hb; replace hc4 := cell_b2 hc4 hb; replace hc5 := cell_b2 hc5 hb; replace hc6 := cell_b2 hc6 hb; replace hc7 := cell_b2 hc7 hb; replace hc8 := cell_b2 hc8 hb; replace hc9 := cell_b2 hc9 hb; clear hb) | (go_at_call 32; refine (text_calls _ _ (by first | exact HS.out.2.2.text | exact HS.out.2.2.key | exact HS.out.2.2.name)).mono ?_; rintro e w2 ⟨rfl, hb⟩; replace HB := Aside0.mk (below_on HB.out hb); replace hc0 := cell_below hb hc0; replace hc1 := cell_below hb hc1; replace hc2 := cell_below hb hc2; replace hc3 := cell_below hb hc3; replace hc4 := cell_below hb hc4; replace hc5 := cell_below hb hc5; replace hc6 := cell_below hb hc6; replace hc7 := cell_below hb hc7; replace hc8 := cell_below hb hc8; replace hc9 := cell_below hb hc9; clear hb))
  all_goals (first | (exfalso; have q0 := enB_size (x := 4) (by decide); have q1 := enB_size (x := inst) HS.out.2.2.inst; have q2 := enB_size (x := step) HS.out.2.2.step; have q3 := enB_size (x := state) HS.out.2.2.state; have q4 := enB_size (x := part) HS.out.2.2.part; have q5 := enB_size (x := cause) HS.out.2.2.cause; have q6 := enB_size (x := version) HS.out.2.2.version; have i0 := Pk.item_len (Nat.not_lt.1 HS.out.2.2.key); have i1 := Pk.item_len (Nat.not_lt.1 HS.out.2.2.name); have i2 := Pk.item_len (Nat.not_lt.1 HS.out.2.2.text); simp only [] at *; omega) | (exfalso; have q0 := enB_size (x := 4) (by decide); have q1 := enB_size (x := inst) HS.out.2.2.inst; have q2 := enB_size (x := step) HS.out.2.2.step; have q3 := enB_size (x := state) HS.out.2.2.state; have q4 := enB_size (x := part) HS.out.2.2.part; have q5 := enB_size (x := cause) HS.out.2.2.cause; have q6 := enB_size (x := version) HS.out.2.2.version; have i0 := Pk.item_len (Nat.not_lt.1 HS.out.2.2.key); have i1 := Pk.item_len (Nat.not_lt.1 HS.out.2.2.name); have i2 := Pk.item_len (Nat.not_lt.1 HS.out.2.2.text); omega) | skip)
  go_returns
  refine ⟨congrArg (fun b => Ending.returned (Value.tuple #[.string b, .int .i64 0])) ?_, HB.out⟩
  apply ByteArray.ext
  apply Array.ext'
  simp [CdNote.form, enB, ByteArray.data_append]

set_option linter.unusedSimpArgs false in
set_option linter.unusedVariables false in
set_option maxHeartbeats 8000000 in
set_option maxRecDepth 100000 in
theorem note5 (w : World) (kind inst step state part cause : Int) (key name : ByteArray) (version : Int) (text : ByteArray) (hs : key.size ≤ 1000000000000000 ∧ name.size ≤ 1000000000000000) (hm : mayN ⟨kind, inst, step, state, part, cause, key, name, version, text⟩ = true) (hk : kind = 5) :
    Calls Try.prog 19 #[.agg (CdNote.cells ⟨kind, inst, step, state, part, cause, key, name, version, text⟩)] w fun e w' => e = .returned (wres true ⟨#[78]⟩ (CdNote.form ⟨kind, inst, step, state, part, cause, key, name, version, text⟩)) ∧ Below w.heap.size w w' := by
  have HS := Aside0.mk (And.intro hs (And.intro hm (mayN_norm hm).1))
  clear hs hm
  subst hk
  go_enter Try.func19, Try.ntmps19
  simp only [CdNote.cells]
  go_wp2_with fail
  refine (mayNote_calls _ ⟨5, inst, step, state, part, cause, key, name, version, text⟩ HS.out.1).mono ?_
  rw [HS.out.2.1]
  rintro e w1 ⟨rfl, hb⟩
  have HB := Aside0.mk (below_on (below_1 w _) hb)
  have hc0 : w1.cell? ⟨w.heap.size, 0, none⟩ = some (.int .i64 5) := row_cell (row_below hb (row_1' w _)) rfl
  have hc1 : w1.cell? ⟨w.heap.size, 1, none⟩ = some (.int .i64 inst) := row_cell (row_below hb (row_1' w _)) rfl
  have hc2 : w1.cell? ⟨w.heap.size, 2, none⟩ = some (.int .i64 step) := row_cell (row_below hb (row_1' w _)) rfl
  have hc3 : w1.cell? ⟨w.heap.size, 3, none⟩ = some (.int .i64 state) := row_cell (row_below hb (row_1' w _)) rfl
  have hc4 : w1.cell? ⟨w.heap.size, 4, none⟩ = some (.int .i64 part) := row_cell (row_below hb (row_1' w _)) rfl
  have hc5 : w1.cell? ⟨w.heap.size, 5, none⟩ = some (.int .i64 cause) := row_cell (row_below hb (row_1' w _)) rfl
  have hc6 : w1.cell? ⟨w.heap.size, 6, none⟩ = some (.string key) := row_cell (row_below hb (row_1' w _)) rfl
  have hc7 : w1.cell? ⟨w.heap.size, 7, none⟩ = some (.string name) := row_cell (row_below hb (row_1' w _)) rfl
  have hc8 : w1.cell? ⟨w.heap.size, 8, none⟩ = some (.int .i64 version) := row_cell (row_below hb (row_1' w _)) rfl
  have hc9 : w1.cell? ⟨w.heap.size, 9, none⟩ = some (.string text) := row_cell (row_below hb (row_1' w _)) rfl
  clear hb
  go_wp2_with (first | (go_at_call 27; (with_reducible show Calls _ _ #[.slice _ 1 1] _ _); refine (nums_calls1 _ _ _ (by first | decide | exact HS.out.2.2.kind | exact HS.out.2.2.inst | exact HS.out.2.2.step | exact HS.out.2.2.state | exact HS.out.2.2.part | exact HS.out.2.2.cause | exact HS.out.2.2.version) (row_cell (row_1' _ _) rfl)).mono ?_; rintro e w2 ⟨rfl, hb⟩; replace HB := Aside0.mk (below_b2 HB.out hb); replace hc0 := cell_b2 hc0 hb; replace hc1 := cell_b2 hc1 hb; replace hc2 := cell_b2 hc2 hb; replace hc3 := cell_b2 hc3 hb; replace hc4 := cell_b2 hc4 hb; replace hc5 := cell_b2 hc5 hb; replace hc6 := cell_b2 hc6 hb; replace hc7 := cell_b2 hc7 hb; replace hc8 := cell_b2 hc8 hb; replace hc9 := cell_b2 hc9 hb; clear hb) | (go_at_call 27; (with_reducible show Calls _ _ #[.slice _ 2 2] _ _); refine (nums_calls2 _ _ _ _ (by first | decide | exact HS.out.2.2.kind | exact HS.out.2.2.inst | exact HS.out.2.2.step | exact HS.out.2.2.state | exact HS.out.2.2.part | exact HS.out.2.2.cause | exact HS.out.2.2.version) (by first | decide | exact HS.out.2.2.kind | exact HS.out.2.2.inst | exact HS.out.2.2.step | exact HS.out.2.2.state | exact HS.out.2.2.part | exact HS.out.2.2.cause | exact HS.out.2.2.version) (row_cell (row_1' _ _) rfl) (row_cell (row_1' _ _) rfl)).mono ?_; rintro e w2 ⟨rfl, hb⟩; replace HB := Aside0.mk (below_b2 HB.out hb); replace hc0 := cell_b2 hc0 hb; replace hc1 := cell_b2 hc1 hb; replace hc2 := cell_b2 hc2 hb; replace hc3 := cell_b2 hc3 hb; replace hc4 := cell_b2 hc4 hb; replace hc5 := cell_b2 hc5 hb; replace hc6 := cell_b2 hc6 hb; replace hc7 := cell_b2 hc7 hb; replace hc8 := cell_b2 hc8 hb; replace hc9 := cell_b2 hc9 hb; clear hb) | (go_at_call 32; refine (text_calls _ _ (by first | exact HS.out.2.2.text | exact HS.out.2.2.key | exact HS.out.2.2.name)).mono ?_; rintro e w2 ⟨rfl, hb⟩; replace HB := Aside0.mk (below_on HB.out hb); replace hc0 := cell_below hb hc0; replace hc1 := cell_below hb hc1; replace hc2 := cell_below hb hc2; replace hc3 := cell_below hb hc3; replace hc4 := cell_below hb hc4; replace hc5 := cell_below hb hc5; replace hc6 := cell_below hb hc6; replace hc7 := cell_below hb hc7; replace hc8 := cell_below hb hc8; replace hc9 := cell_below hb hc9; clear hb))
  all_goals (first | (exfalso; have q0 := enB_size (x := 5) (by decide); have q1 := enB_size (x := inst) HS.out.2.2.inst; have q2 := enB_size (x := step) HS.out.2.2.step; have q3 := enB_size (x := state) HS.out.2.2.state; have q4 := enB_size (x := part) HS.out.2.2.part; have q5 := enB_size (x := cause) HS.out.2.2.cause; have q6 := enB_size (x := version) HS.out.2.2.version; have i0 := Pk.item_len (Nat.not_lt.1 HS.out.2.2.key); have i1 := Pk.item_len (Nat.not_lt.1 HS.out.2.2.name); have i2 := Pk.item_len (Nat.not_lt.1 HS.out.2.2.text); simp only [] at *; omega) | (exfalso; have q0 := enB_size (x := 5) (by decide); have q1 := enB_size (x := inst) HS.out.2.2.inst; have q2 := enB_size (x := step) HS.out.2.2.step; have q3 := enB_size (x := state) HS.out.2.2.state; have q4 := enB_size (x := part) HS.out.2.2.part; have q5 := enB_size (x := cause) HS.out.2.2.cause; have q6 := enB_size (x := version) HS.out.2.2.version; have i0 := Pk.item_len (Nat.not_lt.1 HS.out.2.2.key); have i1 := Pk.item_len (Nat.not_lt.1 HS.out.2.2.name); have i2 := Pk.item_len (Nat.not_lt.1 HS.out.2.2.text); omega) | skip)
  go_returns
  refine ⟨congrArg (fun b => Ending.returned (Value.tuple #[.string b, .int .i64 0])) ?_, HB.out⟩
  apply ByteArray.ext
  apply Array.ext'
  simp [CdNote.form, enB, ByteArray.data_append]

set_option linter.unusedSimpArgs false in
set_option linter.unusedVariables false in
set_option maxHeartbeats 8000000 in
set_option maxRecDepth 100000 in
theorem note6 (w : World) (kind inst step state part cause : Int) (key name : ByteArray) (version : Int) (text : ByteArray) (hs : key.size ≤ 1000000000000000 ∧ name.size ≤ 1000000000000000) (hm : mayN ⟨kind, inst, step, state, part, cause, key, name, version, text⟩ = true) (hk : kind = 6) :
    Calls Try.prog 19 #[.agg (CdNote.cells ⟨kind, inst, step, state, part, cause, key, name, version, text⟩)] w fun e w' => e = .returned (wres true ⟨#[78]⟩ (CdNote.form ⟨kind, inst, step, state, part, cause, key, name, version, text⟩)) ∧ Below w.heap.size w w' := by
  have HS := Aside0.mk (And.intro hs (And.intro hm (mayN_norm hm).1))
  clear hs hm
  subst hk
  go_enter Try.func19, Try.ntmps19
  simp only [CdNote.cells]
  go_wp2_with fail
  refine (mayNote_calls _ ⟨6, inst, step, state, part, cause, key, name, version, text⟩ HS.out.1).mono ?_
  rw [HS.out.2.1]
  rintro e w1 ⟨rfl, hb⟩
  have HB := Aside0.mk (below_on (below_1 w _) hb)
  have hc0 : w1.cell? ⟨w.heap.size, 0, none⟩ = some (.int .i64 6) := row_cell (row_below hb (row_1' w _)) rfl
  have hc1 : w1.cell? ⟨w.heap.size, 1, none⟩ = some (.int .i64 inst) := row_cell (row_below hb (row_1' w _)) rfl
  have hc2 : w1.cell? ⟨w.heap.size, 2, none⟩ = some (.int .i64 step) := row_cell (row_below hb (row_1' w _)) rfl
  have hc3 : w1.cell? ⟨w.heap.size, 3, none⟩ = some (.int .i64 state) := row_cell (row_below hb (row_1' w _)) rfl
  have hc4 : w1.cell? ⟨w.heap.size, 4, none⟩ = some (.int .i64 part) := row_cell (row_below hb (row_1' w _)) rfl
  have hc5 : w1.cell? ⟨w.heap.size, 5, none⟩ = some (.int .i64 cause) := row_cell (row_below hb (row_1' w _)) rfl
  have hc6 : w1.cell? ⟨w.heap.size, 6, none⟩ = some (.string key) := row_cell (row_below hb (row_1' w _)) rfl
  have hc7 : w1.cell? ⟨w.heap.size, 7, none⟩ = some (.string name) := row_cell (row_below hb (row_1' w _)) rfl
  have hc8 : w1.cell? ⟨w.heap.size, 8, none⟩ = some (.int .i64 version) := row_cell (row_below hb (row_1' w _)) rfl
  have hc9 : w1.cell? ⟨w.heap.size, 9, none⟩ = some (.string text) := row_cell (row_below hb (row_1' w _)) rfl
  clear hb
  go_wp2_with (first | (go_at_call 27; (with_reducible show Calls _ _ #[.slice _ 1 1] _ _); refine (nums_calls1 _ _ _ (by first | decide | exact HS.out.2.2.kind | exact HS.out.2.2.inst | exact HS.out.2.2.step | exact HS.out.2.2.state | exact HS.out.2.2.part | exact HS.out.2.2.cause | exact HS.out.2.2.version) (row_cell (row_1' _ _) rfl)).mono ?_; rintro e w2 ⟨rfl, hb⟩; replace HB := Aside0.mk (below_b2 HB.out hb); replace hc0 := cell_b2 hc0 hb; replace hc1 := cell_b2 hc1 hb; replace hc2 := cell_b2 hc2 hb; replace hc3 := cell_b2 hc3 hb; replace hc4 := cell_b2 hc4 hb; replace hc5 := cell_b2 hc5 hb; replace hc6 := cell_b2 hc6 hb; replace hc7 := cell_b2 hc7 hb; replace hc8 := cell_b2 hc8 hb; replace hc9 := cell_b2 hc9 hb; clear hb) | (go_at_call 27; (with_reducible show Calls _ _ #[.slice _ 2 2] _ _); refine (nums_calls2 _ _ _ _ (by first | decide | exact HS.out.2.2.kind | exact HS.out.2.2.inst | exact HS.out.2.2.step | exact HS.out.2.2.state | exact HS.out.2.2.part | exact HS.out.2.2.cause | exact HS.out.2.2.version) (by first | decide | exact HS.out.2.2.kind | exact HS.out.2.2.inst | exact HS.out.2.2.step | exact HS.out.2.2.state | exact HS.out.2.2.part | exact HS.out.2.2.cause | exact HS.out.2.2.version) (row_cell (row_1' _ _) rfl) (row_cell (row_1' _ _) rfl)).mono ?_; rintro e w2 ⟨rfl, hb⟩; replace HB := Aside0.mk (below_b2 HB.out hb); replace hc0 := cell_b2 hc0 hb; replace hc1 := cell_b2 hc1 hb; replace hc2 := cell_b2 hc2 hb; replace hc3 := cell_b2 hc3 hb; replace hc4 := cell_b2 hc4 hb; replace hc5 := cell_b2 hc5 hb; replace hc6 := cell_b2 hc6 hb; replace hc7 := cell_b2 hc7 hb; replace hc8 := cell_b2 hc8 hb; replace hc9 := cell_b2 hc9 hb; clear hb) | (go_at_call 32; refine (text_calls _ _ (by first | exact HS.out.2.2.text | exact HS.out.2.2.key | exact HS.out.2.2.name)).mono ?_; rintro e w2 ⟨rfl, hb⟩; replace HB := Aside0.mk (below_on HB.out hb); replace hc0 := cell_below hb hc0; replace hc1 := cell_below hb hc1; replace hc2 := cell_below hb hc2; replace hc3 := cell_below hb hc3; replace hc4 := cell_below hb hc4; replace hc5 := cell_below hb hc5; replace hc6 := cell_below hb hc6; replace hc7 := cell_below hb hc7; replace hc8 := cell_below hb hc8; replace hc9 := cell_below hb hc9; clear hb))
  all_goals (first | (exfalso; have q0 := enB_size (x := 6) (by decide); have q1 := enB_size (x := inst) HS.out.2.2.inst; have q2 := enB_size (x := step) HS.out.2.2.step; have q3 := enB_size (x := state) HS.out.2.2.state; have q4 := enB_size (x := part) HS.out.2.2.part; have q5 := enB_size (x := cause) HS.out.2.2.cause; have q6 := enB_size (x := version) HS.out.2.2.version; have i0 := Pk.item_len (Nat.not_lt.1 HS.out.2.2.key); have i1 := Pk.item_len (Nat.not_lt.1 HS.out.2.2.name); have i2 := Pk.item_len (Nat.not_lt.1 HS.out.2.2.text); simp only [] at *; omega) | (exfalso; have q0 := enB_size (x := 6) (by decide); have q1 := enB_size (x := inst) HS.out.2.2.inst; have q2 := enB_size (x := step) HS.out.2.2.step; have q3 := enB_size (x := state) HS.out.2.2.state; have q4 := enB_size (x := part) HS.out.2.2.part; have q5 := enB_size (x := cause) HS.out.2.2.cause; have q6 := enB_size (x := version) HS.out.2.2.version; have i0 := Pk.item_len (Nat.not_lt.1 HS.out.2.2.key); have i1 := Pk.item_len (Nat.not_lt.1 HS.out.2.2.name); have i2 := Pk.item_len (Nat.not_lt.1 HS.out.2.2.text); omega) | skip)
  go_returns
  refine ⟨congrArg (fun b => Ending.returned (Value.tuple #[.string b, .int .i64 0])) ?_, HB.out⟩
  apply ByteArray.ext
  apply Array.ext'
  simp [CdNote.form, enB, ByteArray.data_append]

set_option linter.unusedSimpArgs false in
set_option linter.unusedVariables false in
set_option maxHeartbeats 8000000 in
set_option maxRecDepth 100000 in
theorem note7 (w : World) (kind inst step state part cause : Int) (key name : ByteArray) (version : Int) (text : ByteArray) (hs : key.size ≤ 1000000000000000 ∧ name.size ≤ 1000000000000000) (hm : mayN ⟨kind, inst, step, state, part, cause, key, name, version, text⟩ = true) (hk : kind = 7) :
    Calls Try.prog 19 #[.agg (CdNote.cells ⟨kind, inst, step, state, part, cause, key, name, version, text⟩)] w fun e w' => e = .returned (wres true ⟨#[78]⟩ (CdNote.form ⟨kind, inst, step, state, part, cause, key, name, version, text⟩)) ∧ Below w.heap.size w w' := by
  have HS := Aside0.mk (And.intro hs (And.intro hm (mayN_norm hm).1))
  clear hs hm
  subst hk
  go_enter Try.func19, Try.ntmps19
  simp only [CdNote.cells]
  go_wp2_with fail
  refine (mayNote_calls _ ⟨7, inst, step, state, part, cause, key, name, version, text⟩ HS.out.1).mono ?_
  rw [HS.out.2.1]
  rintro e w1 ⟨rfl, hb⟩
  have HB := Aside0.mk (below_on (below_1 w _) hb)
  have hc0 : w1.cell? ⟨w.heap.size, 0, none⟩ = some (.int .i64 7) := row_cell (row_below hb (row_1' w _)) rfl
  have hc1 : w1.cell? ⟨w.heap.size, 1, none⟩ = some (.int .i64 inst) := row_cell (row_below hb (row_1' w _)) rfl
  have hc2 : w1.cell? ⟨w.heap.size, 2, none⟩ = some (.int .i64 step) := row_cell (row_below hb (row_1' w _)) rfl
  have hc3 : w1.cell? ⟨w.heap.size, 3, none⟩ = some (.int .i64 state) := row_cell (row_below hb (row_1' w _)) rfl
  have hc4 : w1.cell? ⟨w.heap.size, 4, none⟩ = some (.int .i64 part) := row_cell (row_below hb (row_1' w _)) rfl
  have hc5 : w1.cell? ⟨w.heap.size, 5, none⟩ = some (.int .i64 cause) := row_cell (row_below hb (row_1' w _)) rfl
  have hc6 : w1.cell? ⟨w.heap.size, 6, none⟩ = some (.string key) := row_cell (row_below hb (row_1' w _)) rfl
  have hc7 : w1.cell? ⟨w.heap.size, 7, none⟩ = some (.string name) := row_cell (row_below hb (row_1' w _)) rfl
  have hc8 : w1.cell? ⟨w.heap.size, 8, none⟩ = some (.int .i64 version) := row_cell (row_below hb (row_1' w _)) rfl
  have hc9 : w1.cell? ⟨w.heap.size, 9, none⟩ = some (.string text) := row_cell (row_below hb (row_1' w _)) rfl
  clear hb
  go_wp2_with (first | (go_at_call 27; (with_reducible show Calls _ _ #[.slice _ 1 1] _ _); refine (nums_calls1 _ _ _ (by first | decide | exact HS.out.2.2.kind | exact HS.out.2.2.inst | exact HS.out.2.2.step | exact HS.out.2.2.state | exact HS.out.2.2.part | exact HS.out.2.2.cause | exact HS.out.2.2.version) (row_cell (row_1' _ _) rfl)).mono ?_; rintro e w2 ⟨rfl, hb⟩; replace HB := Aside0.mk (below_b2 HB.out hb); replace hc0 := cell_b2 hc0 hb; replace hc1 := cell_b2 hc1 hb; replace hc2 := cell_b2 hc2 hb; replace hc3 := cell_b2 hc3 hb; replace hc4 := cell_b2 hc4 hb; replace hc5 := cell_b2 hc5 hb; replace hc6 := cell_b2 hc6 hb; replace hc7 := cell_b2 hc7 hb; replace hc8 := cell_b2 hc8 hb; replace hc9 := cell_b2 hc9 hb; clear hb) | (go_at_call 27; (with_reducible show Calls _ _ #[.slice _ 2 2] _ _); refine (nums_calls2 _ _ _ _ (by first | decide | exact HS.out.2.2.kind | exact HS.out.2.2.inst | exact HS.out.2.2.step | exact HS.out.2.2.state | exact HS.out.2.2.part | exact HS.out.2.2.cause | exact HS.out.2.2.version) (by first | decide | exact HS.out.2.2.kind | exact HS.out.2.2.inst | exact HS.out.2.2.step | exact HS.out.2.2.state | exact HS.out.2.2.part | exact HS.out.2.2.cause | exact HS.out.2.2.version) (row_cell (row_1' _ _) rfl) (row_cell (row_1' _ _) rfl)).mono ?_; rintro e w2 ⟨rfl, hb⟩; replace HB := Aside0.mk (below_b2 HB.out hb); replace hc0 := cell_b2 hc0 hb; replace hc1 := cell_b2 hc1 hb; replace hc2 := cell_b2 hc2 hb; replace hc3 := cell_b2 hc3 hb; replace hc4 := cell_b2 hc4 hb; replace hc5 := cell_b2 hc5 hb; replace hc6 := cell_b2 hc6 hb; replace hc7 := cell_b2 hc7 hb; replace hc8 := cell_b2 hc8 hb; replace hc9 := cell_b2 hc9 hb; clear hb) | (go_at_call 32; refine (text_calls _ _ (by first | exact HS.out.2.2.text | exact HS.out.2.2.key | exact HS.out.2.2.name)).mono ?_; rintro e w2 ⟨rfl, hb⟩; replace HB := Aside0.mk (below_on HB.out hb); replace hc0 := cell_below hb hc0; replace hc1 := cell_below hb hc1; replace hc2 := cell_below hb hc2; replace hc3 := cell_below hb hc3; replace hc4 := cell_below hb hc4; replace hc5 := cell_below hb hc5; replace hc6 := cell_below hb hc6; replace hc7 := cell_below hb hc7; replace hc8 := cell_below hb hc8; replace hc9 := cell_below hb hc9; clear hb))
  all_goals (first | (exfalso; have q0 := enB_size (x := 7) (by decide); have q1 := enB_size (x := inst) HS.out.2.2.inst; have q2 := enB_size (x := step) HS.out.2.2.step; have q3 := enB_size (x := state) HS.out.2.2.state; have q4 := enB_size (x := part) HS.out.2.2.part; have q5 := enB_size (x := cause) HS.out.2.2.cause; have q6 := enB_size (x := version) HS.out.2.2.version; have i0 := Pk.item_len (Nat.not_lt.1 HS.out.2.2.key); have i1 := Pk.item_len (Nat.not_lt.1 HS.out.2.2.name); have i2 := Pk.item_len (Nat.not_lt.1 HS.out.2.2.text); simp only [] at *; omega) | (exfalso; have q0 := enB_size (x := 7) (by decide); have q1 := enB_size (x := inst) HS.out.2.2.inst; have q2 := enB_size (x := step) HS.out.2.2.step; have q3 := enB_size (x := state) HS.out.2.2.state; have q4 := enB_size (x := part) HS.out.2.2.part; have q5 := enB_size (x := cause) HS.out.2.2.cause; have q6 := enB_size (x := version) HS.out.2.2.version; have i0 := Pk.item_len (Nat.not_lt.1 HS.out.2.2.key); have i1 := Pk.item_len (Nat.not_lt.1 HS.out.2.2.name); have i2 := Pk.item_len (Nat.not_lt.1 HS.out.2.2.text); omega) | skip)
  go_returns
  refine ⟨congrArg (fun b => Ending.returned (Value.tuple #[.string b, .int .i64 0])) ?_, HB.out⟩
  apply ByteArray.ext
  apply Array.ext'
  simp [CdNote.form, enB, ByteArray.data_append]

set_option linter.unusedSimpArgs false in
set_option linter.unusedVariables false in
set_option maxHeartbeats 8000000 in
set_option maxRecDepth 100000 in
theorem note8 (w : World) (kind inst step state part cause : Int) (key name : ByteArray) (version : Int) (text : ByteArray) (hs : key.size ≤ 1000000000000000 ∧ name.size ≤ 1000000000000000) (hm : mayN ⟨kind, inst, step, state, part, cause, key, name, version, text⟩ = true) (hk : kind = 8) :
    Calls Try.prog 19 #[.agg (CdNote.cells ⟨kind, inst, step, state, part, cause, key, name, version, text⟩)] w fun e w' => e = .returned (wres true ⟨#[78]⟩ (CdNote.form ⟨kind, inst, step, state, part, cause, key, name, version, text⟩)) ∧ Below w.heap.size w w' := by
  have HS := Aside0.mk (And.intro hs (And.intro hm (mayN_norm hm).1))
  clear hs hm
  subst hk
  go_enter Try.func19, Try.ntmps19
  simp only [CdNote.cells]
  go_wp2_with fail
  refine (mayNote_calls _ ⟨8, inst, step, state, part, cause, key, name, version, text⟩ HS.out.1).mono ?_
  rw [HS.out.2.1]
  rintro e w1 ⟨rfl, hb⟩
  have HB := Aside0.mk (below_on (below_1 w _) hb)
  have hc0 : w1.cell? ⟨w.heap.size, 0, none⟩ = some (.int .i64 8) := row_cell (row_below hb (row_1' w _)) rfl
  have hc1 : w1.cell? ⟨w.heap.size, 1, none⟩ = some (.int .i64 inst) := row_cell (row_below hb (row_1' w _)) rfl
  have hc2 : w1.cell? ⟨w.heap.size, 2, none⟩ = some (.int .i64 step) := row_cell (row_below hb (row_1' w _)) rfl
  have hc3 : w1.cell? ⟨w.heap.size, 3, none⟩ = some (.int .i64 state) := row_cell (row_below hb (row_1' w _)) rfl
  have hc4 : w1.cell? ⟨w.heap.size, 4, none⟩ = some (.int .i64 part) := row_cell (row_below hb (row_1' w _)) rfl
  have hc5 : w1.cell? ⟨w.heap.size, 5, none⟩ = some (.int .i64 cause) := row_cell (row_below hb (row_1' w _)) rfl
  have hc6 : w1.cell? ⟨w.heap.size, 6, none⟩ = some (.string key) := row_cell (row_below hb (row_1' w _)) rfl
  have hc7 : w1.cell? ⟨w.heap.size, 7, none⟩ = some (.string name) := row_cell (row_below hb (row_1' w _)) rfl
  have hc8 : w1.cell? ⟨w.heap.size, 8, none⟩ = some (.int .i64 version) := row_cell (row_below hb (row_1' w _)) rfl
  have hc9 : w1.cell? ⟨w.heap.size, 9, none⟩ = some (.string text) := row_cell (row_below hb (row_1' w _)) rfl
  clear hb
  go_wp2_with (first | (go_at_call 27; (with_reducible show Calls _ _ #[.slice _ 1 1] _ _); refine (nums_calls1 _ _ _ (by first | decide | exact HS.out.2.2.kind | exact HS.out.2.2.inst | exact HS.out.2.2.step | exact HS.out.2.2.state | exact HS.out.2.2.part | exact HS.out.2.2.cause | exact HS.out.2.2.version) (row_cell (row_1' _ _) rfl)).mono ?_; rintro e w2 ⟨rfl, hb⟩; replace HB := Aside0.mk (below_b2 HB.out hb); replace hc0 := cell_b2 hc0 hb; replace hc1 := cell_b2 hc1 hb; replace hc2 := cell_b2 hc2 hb; replace hc3 := cell_b2 hc3 hb; replace hc4 := cell_b2 hc4 hb; replace hc5 := cell_b2 hc5 hb; replace hc6 := cell_b2 hc6 hb; replace hc7 := cell_b2 hc7 hb; replace hc8 := cell_b2 hc8 hb; replace hc9 := cell_b2 hc9 hb; clear hb) | (go_at_call 27; (with_reducible show Calls _ _ #[.slice _ 2 2] _ _); refine (nums_calls2 _ _ _ _ (by first | decide | exact HS.out.2.2.kind | exact HS.out.2.2.inst | exact HS.out.2.2.step | exact HS.out.2.2.state | exact HS.out.2.2.part | exact HS.out.2.2.cause | exact HS.out.2.2.version) (by first | decide | exact HS.out.2.2.kind | exact HS.out.2.2.inst | exact HS.out.2.2.step | exact HS.out.2.2.state | exact HS.out.2.2.part | exact HS.out.2.2.cause | exact HS.out.2.2.version) (row_cell (row_1' _ _) rfl) (row_cell (row_1' _ _) rfl)).mono ?_; rintro e w2 ⟨rfl, hb⟩; replace HB := Aside0.mk (below_b2 HB.out hb); replace hc0 := cell_b2 hc0 hb; replace hc1 := cell_b2 hc1 hb; replace hc2 := cell_b2 hc2 hb; replace hc3 := cell_b2 hc3 hb; replace hc4 := cell_b2 hc4 hb; replace hc5 := cell_b2 hc5 hb; replace hc6 := cell_b2 hc6 hb; replace hc7 := cell_b2 hc7 hb; replace hc8 := cell_b2 hc8 hb; replace hc9 := cell_b2 hc9 hb; clear hb) | (go_at_call 32; refine (text_calls _ _ (by first | exact HS.out.2.2.text | exact HS.out.2.2.key | exact HS.out.2.2.name)).mono ?_; rintro e w2 ⟨rfl, hb⟩; replace HB := Aside0.mk (below_on HB.out hb); replace hc0 := cell_below hb hc0; replace hc1 := cell_below hb hc1; replace hc2 := cell_below hb hc2; replace hc3 := cell_below hb hc3; replace hc4 := cell_below hb hc4; replace hc5 := cell_below hb hc5; replace hc6 := cell_below hb hc6; replace hc7 := cell_below hb hc7; replace hc8 := cell_below hb hc8; replace hc9 := cell_below hb hc9; clear hb))
  all_goals (first | (exfalso; have q0 := enB_size (x := 8) (by decide); have q1 := enB_size (x := inst) HS.out.2.2.inst; have q2 := enB_size (x := step) HS.out.2.2.step; have q3 := enB_size (x := state) HS.out.2.2.state; have q4 := enB_size (x := part) HS.out.2.2.part; have q5 := enB_size (x := cause) HS.out.2.2.cause; have q6 := enB_size (x := version) HS.out.2.2.version; have i0 := Pk.item_len (Nat.not_lt.1 HS.out.2.2.key); have i1 := Pk.item_len (Nat.not_lt.1 HS.out.2.2.name); have i2 := Pk.item_len (Nat.not_lt.1 HS.out.2.2.text); simp only [] at *; omega) | (exfalso; have q0 := enB_size (x := 8) (by decide); have q1 := enB_size (x := inst) HS.out.2.2.inst; have q2 := enB_size (x := step) HS.out.2.2.step; have q3 := enB_size (x := state) HS.out.2.2.state; have q4 := enB_size (x := part) HS.out.2.2.part; have q5 := enB_size (x := cause) HS.out.2.2.cause; have q6 := enB_size (x := version) HS.out.2.2.version; have i0 := Pk.item_len (Nat.not_lt.1 HS.out.2.2.key); have i1 := Pk.item_len (Nat.not_lt.1 HS.out.2.2.name); have i2 := Pk.item_len (Nat.not_lt.1 HS.out.2.2.text); omega) | skip)
  go_returns
  refine ⟨congrArg (fun b => Ending.returned (Value.tuple #[.string b, .int .i64 0])) ?_, HB.out⟩
  apply ByteArray.ext
  apply Array.ext'
  simp [CdNote.form, enB, ByteArray.data_append]

set_option linter.unusedSimpArgs false in
set_option linter.unusedVariables false in
set_option maxHeartbeats 8000000 in
set_option maxRecDepth 100000 in
theorem note9 (w : World) (kind inst step state part cause : Int) (key name : ByteArray) (version : Int) (text : ByteArray) (hs : key.size ≤ 1000000000000000 ∧ name.size ≤ 1000000000000000) (hm : mayN ⟨kind, inst, step, state, part, cause, key, name, version, text⟩ = true) (hk : kind = 9) :
    Calls Try.prog 19 #[.agg (CdNote.cells ⟨kind, inst, step, state, part, cause, key, name, version, text⟩)] w fun e w' => e = .returned (wres true ⟨#[78]⟩ (CdNote.form ⟨kind, inst, step, state, part, cause, key, name, version, text⟩)) ∧ Below w.heap.size w w' := by
  have HS := Aside0.mk (And.intro hs (And.intro hm (mayN_norm hm).1))
  clear hs hm
  subst hk
  go_enter Try.func19, Try.ntmps19
  simp only [CdNote.cells]
  go_wp2_with fail
  refine (mayNote_calls _ ⟨9, inst, step, state, part, cause, key, name, version, text⟩ HS.out.1).mono ?_
  rw [HS.out.2.1]
  rintro e w1 ⟨rfl, hb⟩
  have HB := Aside0.mk (below_on (below_1 w _) hb)
  have hc0 : w1.cell? ⟨w.heap.size, 0, none⟩ = some (.int .i64 9) := row_cell (row_below hb (row_1' w _)) rfl
  have hc1 : w1.cell? ⟨w.heap.size, 1, none⟩ = some (.int .i64 inst) := row_cell (row_below hb (row_1' w _)) rfl
  have hc2 : w1.cell? ⟨w.heap.size, 2, none⟩ = some (.int .i64 step) := row_cell (row_below hb (row_1' w _)) rfl
  have hc3 : w1.cell? ⟨w.heap.size, 3, none⟩ = some (.int .i64 state) := row_cell (row_below hb (row_1' w _)) rfl
  have hc4 : w1.cell? ⟨w.heap.size, 4, none⟩ = some (.int .i64 part) := row_cell (row_below hb (row_1' w _)) rfl
  have hc5 : w1.cell? ⟨w.heap.size, 5, none⟩ = some (.int .i64 cause) := row_cell (row_below hb (row_1' w _)) rfl
  have hc6 : w1.cell? ⟨w.heap.size, 6, none⟩ = some (.string key) := row_cell (row_below hb (row_1' w _)) rfl
  have hc7 : w1.cell? ⟨w.heap.size, 7, none⟩ = some (.string name) := row_cell (row_below hb (row_1' w _)) rfl
  have hc8 : w1.cell? ⟨w.heap.size, 8, none⟩ = some (.int .i64 version) := row_cell (row_below hb (row_1' w _)) rfl
  have hc9 : w1.cell? ⟨w.heap.size, 9, none⟩ = some (.string text) := row_cell (row_below hb (row_1' w _)) rfl
  clear hb
  go_wp2_with (first | (go_at_call 27; (with_reducible show Calls _ _ #[.slice _ 1 1] _ _); refine (nums_calls1 _ _ _ (by first | decide | exact HS.out.2.2.kind | exact HS.out.2.2.inst | exact HS.out.2.2.step | exact HS.out.2.2.state | exact HS.out.2.2.part | exact HS.out.2.2.cause | exact HS.out.2.2.version) (row_cell (row_1' _ _) rfl)).mono ?_; rintro e w2 ⟨rfl, hb⟩; replace HB := Aside0.mk (below_b2 HB.out hb); replace hc0 := cell_b2 hc0 hb; replace hc1 := cell_b2 hc1 hb; replace hc2 := cell_b2 hc2 hb; replace hc3 := cell_b2 hc3 hb; replace hc4 := cell_b2 hc4 hb; replace hc5 := cell_b2 hc5 hb; replace hc6 := cell_b2 hc6 hb; replace hc7 := cell_b2 hc7 hb; replace hc8 := cell_b2 hc8 hb; replace hc9 := cell_b2 hc9 hb; clear hb) | (go_at_call 27; (with_reducible show Calls _ _ #[.slice _ 2 2] _ _); refine (nums_calls2 _ _ _ _ (by first | decide | exact HS.out.2.2.kind | exact HS.out.2.2.inst | exact HS.out.2.2.step | exact HS.out.2.2.state | exact HS.out.2.2.part | exact HS.out.2.2.cause | exact HS.out.2.2.version) (by first | decide | exact HS.out.2.2.kind | exact HS.out.2.2.inst | exact HS.out.2.2.step | exact HS.out.2.2.state | exact HS.out.2.2.part | exact HS.out.2.2.cause | exact HS.out.2.2.version) (row_cell (row_1' _ _) rfl) (row_cell (row_1' _ _) rfl)).mono ?_; rintro e w2 ⟨rfl, hb⟩; replace HB := Aside0.mk (below_b2 HB.out hb); replace hc0 := cell_b2 hc0 hb; replace hc1 := cell_b2 hc1 hb; replace hc2 := cell_b2 hc2 hb; replace hc3 := cell_b2 hc3 hb; replace hc4 := cell_b2 hc4 hb; replace hc5 := cell_b2 hc5 hb; replace hc6 := cell_b2 hc6 hb; replace hc7 := cell_b2 hc7 hb; replace hc8 := cell_b2 hc8 hb; replace hc9 := cell_b2 hc9 hb; clear hb) | (go_at_call 32; refine (text_calls _ _ (by first | exact HS.out.2.2.text | exact HS.out.2.2.key | exact HS.out.2.2.name)).mono ?_; rintro e w2 ⟨rfl, hb⟩; replace HB := Aside0.mk (below_on HB.out hb); replace hc0 := cell_below hb hc0; replace hc1 := cell_below hb hc1; replace hc2 := cell_below hb hc2; replace hc3 := cell_below hb hc3; replace hc4 := cell_below hb hc4; replace hc5 := cell_below hb hc5; replace hc6 := cell_below hb hc6; replace hc7 := cell_below hb hc7; replace hc8 := cell_below hb hc8; replace hc9 := cell_below hb hc9; clear hb))
  all_goals (first | (exfalso; have q0 := enB_size (x := 9) (by decide); have q1 := enB_size (x := inst) HS.out.2.2.inst; have q2 := enB_size (x := step) HS.out.2.2.step; have q3 := enB_size (x := state) HS.out.2.2.state; have q4 := enB_size (x := part) HS.out.2.2.part; have q5 := enB_size (x := cause) HS.out.2.2.cause; have q6 := enB_size (x := version) HS.out.2.2.version; have i0 := Pk.item_len (Nat.not_lt.1 HS.out.2.2.key); have i1 := Pk.item_len (Nat.not_lt.1 HS.out.2.2.name); have i2 := Pk.item_len (Nat.not_lt.1 HS.out.2.2.text); simp only [] at *; omega) | (exfalso; have q0 := enB_size (x := 9) (by decide); have q1 := enB_size (x := inst) HS.out.2.2.inst; have q2 := enB_size (x := step) HS.out.2.2.step; have q3 := enB_size (x := state) HS.out.2.2.state; have q4 := enB_size (x := part) HS.out.2.2.part; have q5 := enB_size (x := cause) HS.out.2.2.cause; have q6 := enB_size (x := version) HS.out.2.2.version; have i0 := Pk.item_len (Nat.not_lt.1 HS.out.2.2.key); have i1 := Pk.item_len (Nat.not_lt.1 HS.out.2.2.name); have i2 := Pk.item_len (Nat.not_lt.1 HS.out.2.2.text); omega) | skip)
  go_returns
  refine ⟨congrArg (fun b => Ending.returned (Value.tuple #[.string b, .int .i64 0])) ?_, HB.out⟩
  apply ByteArray.ext
  apply Array.ext'
  simp [CdNote.form, enB, ByteArray.data_append]

set_option linter.unusedSimpArgs false in
set_option linter.unusedVariables false in
set_option maxHeartbeats 8000000 in
set_option maxRecDepth 100000 in
theorem notez (w : World) (kind inst step state part cause : Int) (key name : ByteArray) (version : Int) (text : ByteArray) (hs : key.size ≤ 1000000000000000 ∧ name.size ≤ 1000000000000000) (hm : mayN ⟨kind, inst, step, state, part, cause, key, name, version, text⟩ = true) (hk : (kind == 1) = false ∧ (kind == 2) = false ∧ (kind == 5) = false ∧ (kind == 6) = false ∧ (kind == 8) = false ∧ (kind == 9) = false) :
    Calls Try.prog 19 #[.agg (CdNote.cells ⟨kind, inst, step, state, part, cause, key, name, version, text⟩)] w fun e w' => e = .returned (wres true ⟨#[78]⟩ (CdNote.form ⟨kind, inst, step, state, part, cause, key, name, version, text⟩)) ∧ Below w.heap.size w w' := by
  have HS := Aside0.mk (And.intro hs (And.intro hm (mayN_norm hm).1))
  clear hs hm
  obtain ⟨hk1, hk2, hk5, hk6, hk8, hk9⟩ := hk
  have HN := Aside0.mk (And.intro (beq_eq_false_iff_ne.1 hk1) (And.intro (beq_eq_false_iff_ne.1 hk2) (And.intro (beq_eq_false_iff_ne.1 hk5) (And.intro (beq_eq_false_iff_ne.1 hk6) (And.intro (beq_eq_false_iff_ne.1 hk8) (beq_eq_false_iff_ne.1 hk9))))))
  go_enter Try.func19, Try.ntmps19
  simp only [CdNote.cells]
  go_wp2_with fail
  refine (mayNote_calls _ ⟨kind, inst, step, state, part, cause, key, name, version, text⟩ HS.out.1).mono ?_
  rw [HS.out.2.1]
  rintro e w1 ⟨rfl, hb⟩
  have HB := Aside0.mk (below_on (below_1 w _) hb)
  have hc0 : w1.cell? ⟨w.heap.size, 0, none⟩ = some (.int .i64 kind) := row_cell (row_below hb (row_1' w _)) rfl
  have hc1 : w1.cell? ⟨w.heap.size, 1, none⟩ = some (.int .i64 inst) := row_cell (row_below hb (row_1' w _)) rfl
  have hc2 : w1.cell? ⟨w.heap.size, 2, none⟩ = some (.int .i64 step) := row_cell (row_below hb (row_1' w _)) rfl
  have hc3 : w1.cell? ⟨w.heap.size, 3, none⟩ = some (.int .i64 state) := row_cell (row_below hb (row_1' w _)) rfl
  have hc4 : w1.cell? ⟨w.heap.size, 4, none⟩ = some (.int .i64 part) := row_cell (row_below hb (row_1' w _)) rfl
  have hc5 : w1.cell? ⟨w.heap.size, 5, none⟩ = some (.int .i64 cause) := row_cell (row_below hb (row_1' w _)) rfl
  have hc6 : w1.cell? ⟨w.heap.size, 6, none⟩ = some (.string key) := row_cell (row_below hb (row_1' w _)) rfl
  have hc7 : w1.cell? ⟨w.heap.size, 7, none⟩ = some (.string name) := row_cell (row_below hb (row_1' w _)) rfl
  have hc8 : w1.cell? ⟨w.heap.size, 8, none⟩ = some (.int .i64 version) := row_cell (row_below hb (row_1' w _)) rfl
  have hc9 : w1.cell? ⟨w.heap.size, 9, none⟩ = some (.string text) := row_cell (row_below hb (row_1' w _)) rfl
  clear hb
  go_wp2_with (first | (go_at_call 27; (with_reducible show Calls _ _ #[.slice _ 1 1] _ _); refine (nums_calls1 _ _ _ (by first | decide | exact HS.out.2.2.kind | exact HS.out.2.2.inst | exact HS.out.2.2.step | exact HS.out.2.2.state | exact HS.out.2.2.part | exact HS.out.2.2.cause | exact HS.out.2.2.version) (row_cell (row_1' _ _) rfl)).mono ?_; rintro e w2 ⟨rfl, hb⟩; replace HB := Aside0.mk (below_b2 HB.out hb); replace hc0 := cell_b2 hc0 hb; replace hc1 := cell_b2 hc1 hb; replace hc2 := cell_b2 hc2 hb; replace hc3 := cell_b2 hc3 hb; replace hc4 := cell_b2 hc4 hb; replace hc5 := cell_b2 hc5 hb; replace hc6 := cell_b2 hc6 hb; replace hc7 := cell_b2 hc7 hb; replace hc8 := cell_b2 hc8 hb; replace hc9 := cell_b2 hc9 hb; clear hb) | (go_at_call 27; (with_reducible show Calls _ _ #[.slice _ 2 2] _ _); refine (nums_calls2 _ _ _ _ (by first | decide | exact HS.out.2.2.kind | exact HS.out.2.2.inst | exact HS.out.2.2.step | exact HS.out.2.2.state | exact HS.out.2.2.part | exact HS.out.2.2.cause | exact HS.out.2.2.version) (by first | decide | exact HS.out.2.2.kind | exact HS.out.2.2.inst | exact HS.out.2.2.step | exact HS.out.2.2.state | exact HS.out.2.2.part | exact HS.out.2.2.cause | exact HS.out.2.2.version) (row_cell (row_1' _ _) rfl) (row_cell (row_1' _ _) rfl)).mono ?_; rintro e w2 ⟨rfl, hb⟩; replace HB := Aside0.mk (below_b2 HB.out hb); replace hc0 := cell_b2 hc0 hb; replace hc1 := cell_b2 hc1 hb; replace hc2 := cell_b2 hc2 hb; replace hc3 := cell_b2 hc3 hb; replace hc4 := cell_b2 hc4 hb; replace hc5 := cell_b2 hc5 hb; replace hc6 := cell_b2 hc6 hb; replace hc7 := cell_b2 hc7 hb; replace hc8 := cell_b2 hc8 hb; replace hc9 := cell_b2 hc9 hb; clear hb) | (go_at_call 32; refine (text_calls _ _ (by first | exact HS.out.2.2.text | exact HS.out.2.2.key | exact HS.out.2.2.name)).mono ?_; rintro e w2 ⟨rfl, hb⟩; replace HB := Aside0.mk (below_on HB.out hb); replace hc0 := cell_below hb hc0; replace hc1 := cell_below hb hc1; replace hc2 := cell_below hb hc2; replace hc3 := cell_below hb hc3; replace hc4 := cell_below hb hc4; replace hc5 := cell_below hb hc5; replace hc6 := cell_below hb hc6; replace hc7 := cell_below hb hc7; replace hc8 := cell_below hb hc8; replace hc9 := cell_below hb hc9; clear hb))
  all_goals (first | (exfalso; have q0 := enB_size (x := kind) HS.out.2.2.kind; have q1 := enB_size (x := inst) HS.out.2.2.inst; have q2 := enB_size (x := step) HS.out.2.2.step; have q3 := enB_size (x := state) HS.out.2.2.state; have q4 := enB_size (x := part) HS.out.2.2.part; have q5 := enB_size (x := cause) HS.out.2.2.cause; have q6 := enB_size (x := version) HS.out.2.2.version; have i0 := Pk.item_len (Nat.not_lt.1 HS.out.2.2.key); have i1 := Pk.item_len (Nat.not_lt.1 HS.out.2.2.name); have i2 := Pk.item_len (Nat.not_lt.1 HS.out.2.2.text); simp only [] at *; omega) | (exfalso; have q0 := enB_size (x := kind) HS.out.2.2.kind; have q1 := enB_size (x := inst) HS.out.2.2.inst; have q2 := enB_size (x := step) HS.out.2.2.step; have q3 := enB_size (x := state) HS.out.2.2.state; have q4 := enB_size (x := part) HS.out.2.2.part; have q5 := enB_size (x := cause) HS.out.2.2.cause; have q6 := enB_size (x := version) HS.out.2.2.version; have i0 := Pk.item_len (Nat.not_lt.1 HS.out.2.2.key); have i1 := Pk.item_len (Nat.not_lt.1 HS.out.2.2.name); have i2 := Pk.item_len (Nat.not_lt.1 HS.out.2.2.text); omega) | skip)
  go_returns
  refine ⟨congrArg (fun b => Ending.returned (Value.tuple #[.string b, .int .i64 0])) ?_, HB.out⟩
  apply ByteArray.ext
  apply Array.ext'
  simp [CdNote.form, enB, ByteArray.data_append, HN.out]

set_option linter.unusedVariables false in
set_option maxHeartbeats 4000000 in
set_option maxRecDepth 100000 in
theorem note_no (w : World) (d : CdNote.D) (hs : d.key.size ≤ 1000000000000000 ∧ d.name.size ≤ 1000000000000000) (hm : mayN d = false) :
    Calls Try.prog 19 #[.agg (CdNote.cells d)] w fun e w' => e = .returned (wres false ⟨#[78]⟩ (CdNote.form d)) ∧ Below w.heap.size w w' := by
  have HS := Aside0.mk (And.intro hs hm)
  clear hs hm
  obtain ⟨kind, inst, step, state, part, cause, key, name, version, text⟩ := d
  go_enter Try.func19, Try.ntmps19
  simp only [CdNote.cells]
  go_wp2_with fail
  refine (mayNote_calls _ ⟨kind, inst, step, state, part, cause, key, name, version, text⟩ HS.out.1).mono ?_
  rw [HS.out.2]
  rintro e w1 ⟨rfl, hb⟩
  have HB := Aside0.mk (below_on (below_1 w _) hb)
  clear hb
  go_wp2
  go_returns
  exact ⟨rfl, HB.out⟩
theorem note_calls (w : World) (d : CdNote.D) (hs : d.key.size ≤ 1000000000000000 ∧ d.name.size ≤ 1000000000000000) :
    Calls Try.prog 19 #[.agg (CdNote.cells d)] w fun e w' => e = .returned (wres (mayN d) ⟨#[78]⟩ (CdNote.form d)) ∧ Below w.heap.size w w' := by
  cases hm : mayN d
  · exact note_no w d hs hm
  obtain ⟨kind, inst, step, state, part, cause, key, name, version, text⟩ := d
  by_cases k1 : kind = 1
  · exact note1 w _ _ _ _ _ _ _ _ _ _ hs hm k1
  by_cases k2 : kind = 2
  · exact note2 w _ _ _ _ _ _ _ _ _ _ hs hm k2
  by_cases k3 : kind = 3
  · exact note3 w _ _ _ _ _ _ _ _ _ _ hs hm k3
  by_cases k4 : kind = 4
  · exact note4 w _ _ _ _ _ _ _ _ _ _ hs hm k4
  by_cases k5 : kind = 5
  · exact note5 w _ _ _ _ _ _ _ _ _ _ hs hm k5
  by_cases k6 : kind = 6
  · exact note6 w _ _ _ _ _ _ _ _ _ _ hs hm k6
  by_cases k7 : kind = 7
  · exact note7 w _ _ _ _ _ _ _ _ _ _ hs hm k7
  by_cases k8 : kind = 8
  · exact note8 w _ _ _ _ _ _ _ _ _ _ hs hm k8
  by_cases k9 : kind = 9
  · exact note9 w _ _ _ _ _ _ _ _ _ _ hs hm k9
  exact notez w _ _ _ _ _ _ _ _ _ _ hs hm ⟨beq_eq_false_iff_ne.2 k1, beq_eq_false_iff_ne.2 k2, beq_eq_false_iff_ne.2 k5, beq_eq_false_iff_ne.2 k6, beq_eq_false_iff_ne.2 k8, beq_eq_false_iff_ne.2 k9⟩
end Go.Proofs.Ytejaepohkcjoiaa.RefN

/- law 07: CodecNotes: the walk (written by wip/gen/mkl5.py). -/
namespace Go.Proofs.Ytejaepohkcjoiaa.CdLaw
open Go.RowKit Go.IntWalk Go.Proofs.Ytejaepohkcjoiaa.G Go.Proofs.YtejaepohkcjoiaaW.PrintWords Go.Proofs.YtejaepohkcjoiaaW.PrintLast Go.Proofs.YtejaepohkcjoiaaW.PrintMore Go.Proofs.Ytejaepohkcjoiaa.CdForm Go.Proofs.Ytejaepohkcjoiaa.Tabs Go.Proofs.Ytejaepohkcjoiaa.CdMay
variable [Tab]

set_option linter.unusedSimpArgs false in
set_option linter.unusedVariables false in
set_option maxHeartbeats 4000000 in
set_option maxRecDepth 100000 in
theorem notes_0 (n : CdNote.D) (w : World) (hs : n.key.size ≤ 1000000000000000 ∧ n.name.size ≤ 1000000000000000) (hm : mayN n = false) (hT : Tab.At w) :
    Calls Try.prog 5 #[.agg (CdNote.cells n)] w fun e w' => e = .returned (.bool true) ∧ Below w.heap.size w w' := by
  have HS := Aside0.mk (And.intro hs (And.intro hm hT))
  clear hs hm hT
  obtain ⟨kind, inst, step, state, part, cause, key, name, version, text⟩ := n
  go_enter Try.func5, Try.ntmps5
  simp only [CdNote.cells]
  go_wp2_with fail
  refine (Note_calls _ ⟨kind, inst, step, state, part, cause, key, name, version, text⟩ ⟨by have := HS.out.1.1; simp only at this ⊢; omega, by have := HS.out.1.2; simp only at this ⊢; omega⟩).mono ?_
  rw [HS.out.2.1]
  rintro e w1 ⟨rfl, hb⟩
  have HB1 := Aside0.mk (And.intro (below_on (below_1 w _) hb) (Tab.below (Tab.below HS.out.2.2 (below_1 w _)) hb))
  have hc0 : w1.cell? ⟨w.heap.size, 0, none⟩ = some (.int .i64 kind) := row_cell (row_below hb (row_1' w _)) rfl
  have hc1 : w1.cell? ⟨w.heap.size, 1, none⟩ = some (.int .i64 inst) := row_cell (row_below hb (row_1' w _)) rfl
  have hc2 : w1.cell? ⟨w.heap.size, 2, none⟩ = some (.int .i64 step) := row_cell (row_below hb (row_1' w _)) rfl
  have hc3 : w1.cell? ⟨w.heap.size, 3, none⟩ = some (.int .i64 state) := row_cell (row_below hb (row_1' w _)) rfl
  have hc4 : w1.cell? ⟨w.heap.size, 4, none⟩ = some (.int .i64 part) := row_cell (row_below hb (row_1' w _)) rfl
  have hc5 : w1.cell? ⟨w.heap.size, 5, none⟩ = some (.int .i64 cause) := row_cell (row_below hb (row_1' w _)) rfl
  have hc6 : w1.cell? ⟨w.heap.size, 6, none⟩ = some (.string key) := row_cell (row_below hb (row_1' w _)) rfl
  have hc7 : w1.cell? ⟨w.heap.size, 7, none⟩ = some (.string name) := row_cell (row_below hb (row_1' w _)) rfl
  have hc8 : w1.cell? ⟨w.heap.size, 8, none⟩ = some (.int .i64 version) := row_cell (row_below hb (row_1' w _)) rfl
  have hc9 : w1.cell? ⟨w.heap.size, 9, none⟩ = some (.string text) := row_cell (row_below hb (row_1' w _)) rfl
  clear hb
  simp only [wres, Bool.false_eq_true, if_false]
  go_wp2_with fail
  refine (RefN.note_calls _ ⟨kind, inst, step, state, part, cause, key, name, version, text⟩ HS.out.1).mono ?_
  rw [HS.out.2.1]
  simp only [wres, Bool.false_eq_true, if_false]
  rintro e w2 ⟨rfl, hb⟩
  have HB2 := Aside0.mk (And.intro (below_on HB1.out.1 hb) (Tab.below HB1.out.2 hb))
  clear hb hc0 hc1 hc2 hc3 hc4 hc5 hc6 hc7 hc8 hc9
  go_wp2_with fail
  refine (live_calls _ HB2.out.2).mono ?_
  rintro e w3 ⟨rfl, hb⟩
  have HB3 := Aside0.mk (below_on HB2.out.1 hb)
  clear hb
  go_wp2
  go_ret
  exact ⟨by simp, HB3.out⟩

set_option linter.unusedSimpArgs false in
set_option linter.unusedVariables false in
set_option maxHeartbeats 4000000 in
set_option maxRecDepth 100000 in
theorem notes_1 (n : CdNote.D) (w : World) (hs : n.key.size ≤ 1000000000000000 ∧ n.name.size ≤ 1000000000000000) (hm : mayN n = true) (hT : Tab.At w) :
    Calls Try.prog 5 #[.agg (CdNote.cells n)] w fun e w' => e = .returned (.bool true) ∧ Below w.heap.size w w' := by
  have HS := Aside0.mk (And.intro hs (And.intro hm hT))
  clear hs hm hT
  obtain ⟨kind, inst, step, state, part, cause, key, name, version, text⟩ := n
  go_enter Try.func5, Try.ntmps5
  simp only [CdNote.cells]
  go_wp2_with fail
  refine (Note_calls _ ⟨kind, inst, step, state, part, cause, key, name, version, text⟩ ⟨by have := HS.out.1.1; simp only at this ⊢; omega, by have := HS.out.1.2; simp only at this ⊢; omega⟩).mono ?_
  rw [HS.out.2.1]
  rintro e w1 ⟨rfl, hb⟩
  have HB1 := Aside0.mk (And.intro (below_on (below_1 w _) hb) (Tab.below (Tab.below HS.out.2.2 (below_1 w _)) hb))
  have hc0 : w1.cell? ⟨w.heap.size, 0, none⟩ = some (.int .i64 kind) := row_cell (row_below hb (row_1' w _)) rfl
  have hc1 : w1.cell? ⟨w.heap.size, 1, none⟩ = some (.int .i64 inst) := row_cell (row_below hb (row_1' w _)) rfl
  have hc2 : w1.cell? ⟨w.heap.size, 2, none⟩ = some (.int .i64 step) := row_cell (row_below hb (row_1' w _)) rfl
  have hc3 : w1.cell? ⟨w.heap.size, 3, none⟩ = some (.int .i64 state) := row_cell (row_below hb (row_1' w _)) rfl
  have hc4 : w1.cell? ⟨w.heap.size, 4, none⟩ = some (.int .i64 part) := row_cell (row_below hb (row_1' w _)) rfl
  have hc5 : w1.cell? ⟨w.heap.size, 5, none⟩ = some (.int .i64 cause) := row_cell (row_below hb (row_1' w _)) rfl
  have hc6 : w1.cell? ⟨w.heap.size, 6, none⟩ = some (.string key) := row_cell (row_below hb (row_1' w _)) rfl
  have hc7 : w1.cell? ⟨w.heap.size, 7, none⟩ = some (.string name) := row_cell (row_below hb (row_1' w _)) rfl
  have hc8 : w1.cell? ⟨w.heap.size, 8, none⟩ = some (.int .i64 version) := row_cell (row_below hb (row_1' w _)) rfl
  have hc9 : w1.cell? ⟨w.heap.size, 9, none⟩ = some (.string text) := row_cell (row_below hb (row_1' w _)) rfl
  clear hb
  simp only [wres, if_true]
  go_wp2_with fail
  refine (RefN.note_calls _ ⟨kind, inst, step, state, part, cause, key, name, version, text⟩ HS.out.1).mono ?_
  rw [HS.out.2.1]
  simp only [wres, if_true]
  rintro e w2 ⟨rfl, hb⟩
  have HB2 := Aside0.mk (And.intro (below_on HB1.out.1 hb) (Tab.below HB1.out.2 hb))
  clear hb hc0 hc1 hc2 hc3 hc4 hc5 hc6 hc7 hc8 hc9
  go_wp2_with fail
  refine (live_calls _ HB2.out.2).mono ?_
  rintro e w3 ⟨rfl, hb⟩
  have HB3 := Aside0.mk (below_on HB2.out.1 hb)
  clear hb
  go_wp2
  go_ret
  exact ⟨by simp, HB3.out⟩

end Go.Proofs.Ytejaepohkcjoiaa.CdLaw
namespace Go.Proofs.Ytejaepohkcjoiaa.CdLaw
open Go.RowKit Go.Proofs.Ytejaepohkcjoiaa.Tabs Go.Proofs.Ytejaepohkcjoiaa.CdMay
theorem walk5 (cs0 : Array Value) (n : CdNote.D) (w : World) (hK : Opening.NoteK w n cs0.toList) (hB : Opening.NoteB n) (hsh : w.ShapedOpen Try.prog) :
    Calls Try.prog 5 #[.agg cs0] w fun e w' => e = .returned (.bool true) ∧ Below w.heap.size w w' := by
  obtain ⟨T, hT⟩ := tabs_of hsh
  let _i : Tab := tabOf T
  obtain rfl : cs0 = CdNote.cells n := Array.ext' hK
  have hs : n.key.size ≤ 1000000000000000 ∧ n.name.size ≤ 1000000000000000 := by
    obtain ⟨_, _, _, _, _, _, h1, h2, _⟩ := hB
    omega
  cases hm : mayN n
  · exact notes_0 n w hs hm hT
  · exact notes_1 n w hs hm hT
end Go.Proofs.Ytejaepohkcjoiaa.CdLaw

/- The row of the law CodecNotes, out of its walk. -/
namespace Go.Proofs.Ytejaepohkcjoiaa.codecNotes
open Go.ChangeShapes Go.WideShapes Go.ChangeAt Go.RowKit
open Go.ChangeMaps (open_string shut_string)
theorem own : ownKnob Try.prog.godebug = none := by kernel_rfl
theorem laidOut : laidOutB Try.prog = true := by kernel_rfl
set_option maxRecDepth 100000 in
theorem lifted (os : Os) (started : os.Started) (H : Type) (enc : TypeId × Value → H) :
    ReturnsInHanded {} Try.checked os 5 .any (Rows.codecNotesSpec.pre6 enc Try.prog Try.f5 Rows.codecNotesRow.domain false) (Rows.codecNotesSpec.post enc Try.prog Try.f5 false true false false) := by
  refine returnsInHanded_of_change_shaped (C := Try.checked) own started (by kernel_rfl) Try.func5
    (ChangeSpec.witness6 (enc := enc) (C := Try.checked) false ⟨#[], #[.agg #[(.int .i64 0), (.int .i64 0), (.int .i64 0), (.int .i64 0), (.int .i64 0), (.int .i64 0), (.string ByteArray.empty), (.string ByteArray.empty), (.int .i64 0), (.string ByteArray.empty)]], []⟩ 8 (by kernel_rfl) (by kernel_rfl) (by kernel_rfl) (by kernel_rfl)) ?_
  intro W base args ds gs before hval0 hW hcnd hsz0 hsh _
  have hsz : (DataW.weightsEach Try.prog (Try.f5.params.toList ++ Rows.codecNotesSpec.plain.varTypes Try.prog) (ds ++ gs)).all (· ≤ reachBytes) = true := hsz0
  have hval : ∀ (j : Nat) t v, Try.f5.params[j]? = some t → args[j]? = some v → Value.okWide Try.prog W .any base t v := hval0
  have hW' := hW
  obtain ⟨p, q, hA0, hV, rfl, hfz, hnd⟩ := hW
  have hA : DataW.TrodAll enc Try.prog W 0 (fun _ => true) true Try.f5.params.toList args.toList ds p := hA0
  rw [Try.params5] at hA hval hsz
  obtain ⟨v0, vs0, d0, ds0, p0, q0, hargs, rfl, rfl, h0, r0⟩ := trodAll_cons hA
  obtain ⟨rfl, rfl, rfl⟩ := trodAll_nil r0
  obtain rfl : args = #[v0] := by cases args; simp_all
  obtain ⟨rfl, rfl⟩ := trodVars_none hV
  have k0 := h0
  have lt0 : ∀ x ∈ p0, x.block < W.heap.size := by obtain ⟨m, hm⟩ := k0; exact DataW.trod_lt m _ _ _ hm
  obtain ⟨cs0, rfl, hs0⟩ := okWide_struct Try.underlying38 (hval 0 38 v0 rfl rfl)
  obtain ⟨a0, hK0, w0⟩ := Opening.openedK Opening.opens_Note hsz (j := 0) (t := 38) rfl rfl h0
  clear hA0 hval0 hsz0 hsz
  refine (CdLaw.walk5 cs0 a0 W hK0 w0 hsh).mono fun e W' ⟨he, bel⟩ => ?_
  subst he
  exact ⟨_, rfl, _, _, _, [], _, [], hW', trodAll_mk1 (shut_bool Try.underlying4 _), (trodAll_cons_mk (Below.trod laidOut (by kernel_rfl) (of_decide_eq_true (by kernel_rfl)) k0 bel lt0) trodAll_mk0), rfl, bel.frame _, fun h => by cases h⟩
theorem over : Rows.codecNotesRow.holds Try.pinned (OpenSpec.ofChange Rows.codecNotesSpec) :=
  OpenClaim.holds_of_wide 5 Try.f5 rfl rfl rfl rfl rfl rfl rfl ⟨rfl, rfl, rfl, rfl, rfl⟩ rfl rfl rfl rfl rfl (by kernel_rfl) Try.func5 (by kernel_rfl)
    (of_decide_eq_true (by kernel_rfl)) (by unfold Func.isWrapper; first | (rw [if_pos (by decide +kernel)]; kernel_rfl) | (rw [if_neg (by decide +kernel)]; exact ⟨rfl, rfl⟩))
    (fun os started H enc _ => lifted os started H enc)
theorem proved : Rows.CodecNotesSaid := over
#print axioms proved
end Go.Proofs.Ytejaepohkcjoiaa.codecNotes
namespace Go.Proofs.Ytejaepohkcjoiaa
/-- The row, under a short name, for the claim. -/
theorem codecNotes_holds : Rows.CodecNotesSaid := codecNotes.proved
end Go.Proofs.Ytejaepohkcjoiaa
