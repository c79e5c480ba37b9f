/- Several texts in one, in build order: PlRLoose, PlRCheck, PlLawP, PlLive, PlDone, PlRings, PlRingsW, PlOpens, PlLawDone, PlLawRings, PlTabs, RowPlanRings. -/
import Derived.Test.YthlgcibckakhbaaDoorMPD4
import Derived.Test.YthlgcibckakhbaaDoorRows
import Derived.ProofKit
import Derived.LaidMore
import Derived.Lay
import Derived.OpenShut
import Derived.Stop.Joined
import Derived.PinnedBridge
import Derived.Lib.LaidU8
import Derived.Test.YthlgcibckakhbaaDoorCards
import Derived.Test.YthlgcibckakhbaaDoorTie
import Derived.SevenTiedAt
import Derived.WalkKit
import Derived.ShutString
import Derived.ChangeOld
import Derived.Below
import Derived.SizedLaws
import Derived.Carry
set_option linter.unusedVariables false
set_option linter.unusedSimpArgs false
/- odysseyref11.loose: the walk, by hand. -/
namespace Go.Proofs.YthlgcibckakhbaaDoor.Pl
open Go.RowKit Go.IntWalk Go.Proofs.YthlgcibckakhbaaDoorW.PrintWords Go.Proofs.YthlgcibckakhbaaDoorW.PrintLast Go.Proofs.YthlgcibckakhbaaDoorW.PrintMore Go.Proofs.YthlgcibckakhbaaDoor.PlName

theorem beq_bytes {a b : ByteArray} (h : (a.toList == b.toList) = true) : a = b := by
  have h := beq_iff_eq.1 h
  rw [ByteArray.toList_eq, ByteArray.toList_eq] at h
  cases a; cases b
  exact congrArg ByteArray.mk (Array.toList_inj.1 h)
def hasK (ks : List ByteArray) (k : ByteArray) : Bool := ks.any fun x => x.toList == k.toList
theorem hasK_snoc (ks : List ByteArray) (x k : ByteArray) : hasK (ks ++ [x]) k = (hasK ks k || (x.toList == k.toList)) := by
  unfold hasK
  simp
theorem held_has (l : List Step) (k : ByteArray) : (heldF l k == 0) = !hasK (heldKeys l) k := by
  unfold heldF countK hasK
  cases h : (heldKeys l).any fun x => x.toList == k.toList
  · rw [List.any_eq_false] at h
    have : (heldKeys l).countP (fun x => decide (x = k)) = 0 := by
      rw [List.countP_eq_zero]
      intro x hx e
      have e := of_decide_eq_true e
      subst e
      exact h x hx (by simp)
    rw [this]
    rfl
  · rw [List.any_eq_true] at h
    obtain ⟨x, hx, e⟩ := h
    have e := beq_bytes e
    subst e
    have : 0 < (heldKeys l).countP (fun y => decide (y = x)) := List.countP_pos_iff.2 ⟨x, hx, by simp⟩
    simp only [Bool.not_true, beq_eq_false_iff_ne, ne_eq]
    omega
theorem lacks_kind {l : List Step} {i : Nat} (hi : i < l.length) (hk : (stepAt l i).kind ≠ 3) : lacksHeld l (heldF l) i = false := by
  unfold lacksHeld
  rw [List.any_eq_false]
  intro k hk2
  rw [held_has]
  have : hasK (heldKeys l) k = true := by
    unfold hasK
    rw [List.any_eq_true]
    refine ⟨k, ?_, by simp⟩
    unfold heldKeys
    rw [List.mem_flatMap]
    exact ⟨stepAt l i, List.mem_of_getElem? (stepAt_eq hi), by rw [if_neg hk]; exact hk2⟩
  rw [this]
  simp
theorem key_cell {w : World} {A : Option Addr} {l : List ByteArray} (h : Kd.C Kd.string w A l.length l) {i : Nat} (hlt : i < l.length) : ∃ ad, A = some ad ∧ w.cell? (ad.add i) = some (.string l[i]) := str_at h hlt

set_option linter.unusedSimpArgs false in
set_option linter.unusedVariables false in
set_option maxHeartbeats 16000000 in
set_option maxRecDepth 100000 in
theorem looseR_calls (nm : ByteArray) (l : List Step) (ad : Addr) (c : Nat) (i : Nat) (w : World) (hS : StepsAt w (some ad) l) (hi : i < l.length) (hl8 : l.length ≤ 8) (hk2 : ∀ k, k < l.length → (stepAt l k).keys.length ≤ 2) :
    Calls Tryd.prog 35 #[.agg #[.string nm, .slice (some ad) l.length c], .int .i64 (i : Int)] w fun e w' => e = .returned (.bool (lacksHeld l (heldF l) i)) ∧ Below w.heap.size w w' := by
  have HB0 := Aside0.mk (And.intro (below_one w (.cells #[.string nm, .slice (some ad) l.length c] 24)) (alloc1 w (.cells #[.string nm, .slice (some ad) l.length c] 24)))
  have HA := Aside0.mk (And.intro hS hk2)
  obtain ⟨_, e1, A1, c1, A2, c2, h1⟩ := hS.one (stepAt_eq hi)
  cases e1
  have HS1 := Aside0.mk h1
  have hki := hk2 i hi
  have HLK := Aside0.mk (fun h => lacks_kind (l := l) hi h)
  have HF : Aside0 (lacksHeld l (heldF l) i = (stepAt l i).keys.any fun k => heldF l k == 0) := ⟨rfl⟩
  clear hS hk2 h1
  generalize lacksHeld l (heldF l) i = rr at *
  go_enter Tryd.func35, Tryd.ntmps35
  go_wp2
  generalize World.alloc w _ = w0 at *
  cases hk3 : ((stepAt l i).kind == 3)
  · have HX : Aside0 (rr = false) := ⟨HLK.out (beq_eq_false_iff_ne.1 hk3)⟩
    have hq1 := row_cell (j := 1) HB0.out.2 rfl
    have hs3 := (HS1.out.below HB0.out.1).c3
    have hs1 := (HS1.out.below HB0.out.1).c1_
    go_loopw [5] (fun v5 wq => v5 = .int .i64 0 ∧ wq = w0) (fun _ _ => 0)
    case atStart => exact ⟨rfl, rfl⟩
    case round =>
      obtain ⟨rfl, rfl⟩ := hrel
      by_cases hl : (stepAt l i).keys.length = 0
      · have hd : decide (0 < ((stepAt l i).keys.length : Int)) = false := decide_eq_false (by omega)
        have hdn : decide (0 < (stepAt l i).keys.length) = false := decide_eq_false (by omega)
        clear hl
        go_wp2
        go_ret
        rw [HX.out]
        exact ⟨rfl, HB0.out.1⟩
      · have hd : decide (0 < ((stepAt l i).keys.length : Int)) = true := decide_eq_true (by omega)
        have hdn : decide (0 < (stepAt l i).keys.length) = true := decide_eq_true (by omega)
        clear hl
        go_wp2
        go_ret
        rw [HX.out]
        exact ⟨rfl, HB0.out.1⟩
  · go_loopw [5] (fun v5 wr => ∃ k : Nat, k ≤ (stepAt l i).keys.length ∧ v5 = .int .i64 (k : Int) ∧ (∀ j (hj : j < k) (hl : j < (stepAt l i).keys.length), (heldF l (stepAt l i).keys[j] == 0) = false) ∧ Below w0.heap.size w0 wr) (fun v5 _ => (stepAt l i).keys.length - (intOf v5).toNat)
    case atStart => exact ⟨0, Nat.zero_le _, rfl, fun j hj => absurd hj (Nat.not_lt_zero _), Below.refl _ _⟩
    case round =>
      obtain ⟨k, hk, rfl, hal, hB⟩ := hrel
      have HG := Aside0.mk (And.intro hal (And.intro hB (on_ HB0.out.1 hB)))
      have hq1 := row_cell (j := 1) (row_on hB HB0.out.2) rfl
      have hs3 := (HS1.out.below (on_ HB0.out.1 hB)).c3
      have hs1 := (HS1.out.below (on_ HB0.out.1 hB)).c1_
      clear hal hB
      by_cases hlt : k < (stepAt l i).keys.length
      · have hd2 : decide ((k : Int) < ((stepAt l i).keys.length : Int)) = true := decide_eq_true (by omega)
        obtain ⟨ai, rfl, hkey⟩ := key_cell HS1.out.keys hlt
        have HKEY := Aside0.mk hkey
        have HHS := Aside0.mk (held_has l (stepAt l i).keys[k])
        have HAN : Aside0 ((heldF l (stepAt l i).keys[k] == 0) = true → rr = true) := ⟨fun h => by rw [HF.out]; exact any_hit hlt h⟩
        have HST : Aside0 ((heldF l (stepAt l i).keys[k] == 0) = false → ∀ j (hj : j < k + 1) (hl : j < (stepAt l i).keys.length), (heldF l (stepAt l i).keys[j] == 0) = false) := ⟨fun h j hj hl => by
          rcases Nat.lt_succ_iff_lt_or_eq.1 hj with h2 | h2
          · exact HG.out.1 j h2 hl
          · subst h2
            exact h⟩
        clear hkey
        generalize (stepAt l i).keys[k] = key at *
        go_wp2
        clear hq1 hs3 hs1
        go_loopw [6, 7] (fun v6 v7 wj => ∃ j : Nat, j ≤ l.length ∧ v7 = .int .i64 (j : Int) ∧ v6 = .bool (hasK (heldKeys (l.take j)) key) ∧ Below w0.heap.size w0 wj) (fun _ v7 _ => l.length - (intOf v7).toNat)
        case atStart => exact ⟨0, Nat.zero_le _, rfl, rfl, HG.out.2.1⟩
        case round =>
          obtain ⟨j, hj, rfl, rfl, hB⟩ := hrel
          have HJ := Aside0.mk (And.intro hB (on_ HB0.out.1 hB))
          have hq1 := row_cell (j := 1) (row_on hB HB0.out.2) rfl
          clear hB
          by_cases hlj : j < l.length
          · have hd3 : decide ((j : Int) < (l.length : Int)) = true := decide_eq_true (by omega)
            obtain ⟨_, e2, B1, b1_, B2, b2_, h2⟩ := HA.out.1.one (stepAt_eq hlj)
            cases e2
            have HS2 := Aside0.mk h2
            have hkj := HA.out.2 j hlj
            have HSN := Aside0.mk (heldKeys_snoc hlj)
            clear h2
            generalize hfb : hasK (heldKeys (l.take j)) key = fb at *
            replace hfb := Aside0.mk hfb
            cases hk4 : ((stepAt l j).kind != 3)
            · have hk4' : (stepAt l j).kind = 3 := bne_eq_false_iff_eq.1 hk4
              have HE : Aside0 (fb = hasK (heldKeys (l.take (j + 1))) key) := ⟨by rw [HSN.out, if_pos hk4', List.append_nil]; exact hfb.out.symm⟩
              have hs3 := (HS2.out.below HJ.out.2).c3
              have hs1 := (HS2.out.below HJ.out.2).c1_
              clear hk4'
              go_wp2
              go_loopw [6, 8] (fun v6 v8 wq => v8 = .int .i64 0 ∧ v6 = .bool fb ∧ wq = wr) (fun _ _ _ => 0)
              case atStart => exact ⟨rfl, rfl, rfl⟩
              case round =>
                obtain ⟨rfl, rfl, rfl⟩ := hrel
                by_cases hl : (stepAt l j).keys.length = 0
                · have hd : decide (0 < ((stepAt l j).keys.length : Int)) = false := decide_eq_false (by omega)
                  have hdn : decide (0 < (stepAt l j).keys.length) = false := decide_eq_false (by omega)
                  clear hl
                  go_wp2
                  go_roundw
                  case rel => exact ⟨j + 1, hlj, by go_num, by rw [HE.out], HJ.out.1⟩
                  case measure => simp [intOf]; omega
                · have hd : decide (0 < ((stepAt l j).keys.length : Int)) = true := decide_eq_true (by omega)
                  have hdn : decide (0 < (stepAt l j).keys.length) = true := decide_eq_true (by omega)
                  clear hl
                  go_wp2
                  go_roundw
                  case rel => exact ⟨j + 1, hlj, by go_num, by rw [HE.out], HJ.out.1⟩
                  case measure => simp [intOf]; omega
            · have hk4' : (stepAt l j).kind ≠ 3 := bne_iff_ne.1 hk4
              have HE : Aside0 (hasK (heldKeys (l.take j) ++ (stepAt l j).keys.take (stepAt l j).keys.length) key = hasK (heldKeys (l.take (j + 1))) key) := ⟨by rw [HSN.out, if_neg hk4', List.take_length]⟩
              clear hk4'
              go_wp2
              clear hq1
              go_loopw [6, 8] (fun v6 v8 wm => ∃ m : Nat, m ≤ (stepAt l j).keys.length ∧ v8 = .int .i64 (m : Int) ∧ v6 = .bool (hasK (heldKeys (l.take j) ++ (stepAt l j).keys.take m) key) ∧ Below w0.heap.size w0 wm) (fun _ v8 _ => (stepAt l j).keys.length - (intOf v8).toNat)
              case atStart => exact ⟨0, Nat.zero_le _, rfl, by rw [List.take_zero, List.append_nil, hfb.out], HJ.out.1⟩
              case round =>
                obtain ⟨m, hm, rfl, rfl, hB⟩ := hrel
                have HM := Aside0.mk (And.intro hB (on_ HB0.out.1 hB))
                have hq1 := row_cell (j := 1) (row_on hB HB0.out.2) rfl
                have hs3 := (HS2.out.below HM.out.2).c3
                have hs1 := (HS2.out.below HM.out.2).c1_
                clear hB
                by_cases hlm : m < (stepAt l j).keys.length
                · have hd4 : decide ((m : Int) < ((stepAt l j).keys.length : Int)) = true := decide_eq_true (by omega)
                  obtain ⟨aj, rfl, hkj2⟩ := key_cell HS2.out.keys hlm
                  replace hkj2 := cell_on HM.out.2 hkj2
                  have hki3 := (HS1.out.below HM.out.2).c3
                  have hkey := cell_on HM.out.2 HKEY.out
                  have HSS : Aside0 (hasK (heldKeys (l.take j) ++ (stepAt l j).keys.take (m + 1)) key = (hasK (heldKeys (l.take j) ++ (stepAt l j).keys.take m) key || ((stepAt l j).keys[m].toList == key.toList))) := ⟨by rw [List.take_succ_eq_append_getElem hlm, ← List.append_assoc, hasK_snoc]⟩
                  generalize (stepAt l j).keys[m] = kj at *
                  generalize hasK (heldKeys (l.take j) ++ (stepAt l j).keys.take m) key = b0 at *
                  cases b0
                  · rw [Bool.false_or] at HSS
                    generalize hkk : (kj.toList == key.toList) = b1 at *
                    go_wp2
                    refine start_ (n := 23) (S := fun w' => w'.cell? ⟨w.heap.size, 1, none⟩ = some (.slice (some ad) l.length c) ∧ w'.cell? ⟨(ad.add (j * 5)).block, (ad.add (j * 5)).off + 3, none⟩ = some (.slice (some aj) (stepAt l j).keys.length b1_) ∧ w'.cell? (aj.add m) = some (.string kj) ∧ w'.cell? ⟨(ad.add (i * 5)).block, (ad.add (i * 5)).off + 3, none⟩ = some (.slice (some ai) (stepAt l i).keys.length c1) ∧ w'.cell? (ai.add k) = some (.string key)) (ds := []) #[false, false, false, false, false, false, false, false, false, false, false, false, false, false, false, false, false, false, false, false, false, false, false] (by kernel_rfl) rfl rfl ⟨(by go_keep), (by go_keep), (by go_keep), (by go_keep), (by go_keep)⟩ (fun hHeld => ?_)
                    refine pure_ (i := 0) (N := some 56) (v := ?_) (a' := ?_) #[true, false, false, false, false, false, false, false, false, false, false, false, false, false, false, false, false, false, false, false, false, false, false] rfl rfl (by kernel_rfl) (fun _ _ _ h => h) (Or.inl ⟨by rfl, ?_⟩) ?_ ?_
                    rotate_left
                    · intro w'
                      go_simp
                      with_reducible rfl
                    rotate_left
                    · simp only [Act.put, List.setIfInBounds_toArray, List.set_cons_zero, List.set_cons_succ, i64_w, i32_w]
                      rfl
                    refine pure_ (i := 1) (N := some 57) (v := ?_) (a' := ?_) #[true, true, false, false, false, false, false, false, false, false, false, false, false, false, false, false, false, false, false, false, false, false, false] rfl rfl (by kernel_rfl) (fun _ _ _ h => h) (Or.inl ⟨by rfl, ?_⟩) ?_ ?_
                    rotate_left
                    · intro w'
                      go_simp
                      with_reducible rfl
                    rotate_left
                    · simp only [Act.put, List.setIfInBounds_toArray, List.set_cons_zero, List.set_cons_succ, i64_w, i32_w]
                      rfl
                    refine pure_ (i := 2) (N := some 58) (v := ?_) (a' := ?_) #[true, true, true, false, false, false, false, false, false, false, false, false, false, false, false, false, false, false, false, false, false, false, false] rfl rfl (by kernel_rfl) (fun _ _ _ h => h) (Or.inl ⟨by rfl, ?_⟩) ?_ ?_
                    rotate_left
                    · intro w'
                      go_simp
                      with_reducible rfl
                    rotate_left
                    · simp only [Act.put, List.setIfInBounds_toArray, List.set_cons_zero, List.set_cons_succ, i64_w, i32_w]
                      rfl
                    refine pure_ (i := 4) (N := some 60) (v := ?_) (a' := ?_) #[true, true, true, false, true, false, false, false, false, false, false, false, false, false, false, false, false, false, false, false, false, false, false] rfl rfl (by kernel_rfl) (fun _ _ _ h => h) (Or.inl ⟨by rfl, ?_⟩) ?_ ?_
                    rotate_left
                    · intro w'
                      go_simp
                      with_reducible rfl
                    rotate_left
                    · simp only [Act.put, List.setIfInBounds_toArray, List.set_cons_zero, List.set_cons_succ, i64_w, i32_w]
                      rfl
                    refine pure_ (i := 8) (N := some 64) (v := ?_) (a' := ?_) #[true, true, true, false, true, false, false, false, true, false, false, false, false, false, false, false, false, false, false, false, false, false, false] rfl rfl (by kernel_rfl) (fun _ _ _ h => h) (Or.inl ⟨by rfl, ?_⟩) ?_ ?_
                    rotate_left
                    · intro w'
                      go_simp
                      with_reducible rfl
                    rotate_left
                    · simp only [Act.put, List.setIfInBounds_toArray, List.set_cons_zero, List.set_cons_succ, i64_w, i32_w]
                      rfl
                    refine pure_ (i := 11) (N := some 67) (v := ?_) (a' := ?_) #[true, true, true, false, true, false, false, false, true, false, false, true, false, false, false, false, false, false, false, false, false, false, false] rfl rfl (by kernel_rfl) (fun _ _ _ h => h) (Or.inl ⟨by rfl, ?_⟩) ?_ ?_
                    rotate_left
                    · intro w'
                      go_simp
                      with_reducible rfl
                    rotate_left
                    · simp only [Act.put, List.setIfInBounds_toArray, List.set_cons_zero, List.set_cons_succ, i64_w, i32_w]
                      rfl
                    refine pure_ (i := 13) (N := some 69) (v := ?_) (a' := ?_) #[true, true, true, false, true, false, false, false, true, false, false, true, false, true, false, false, false, false, false, false, false, false, false] rfl rfl (by kernel_rfl) (fun _ _ _ h => h) (Or.inl ⟨by rfl, ?_⟩) ?_ ?_
                    rotate_left
                    · intro w'
                      go_simp
                      with_reducible rfl
                    rotate_left
                    · simp only [Act.put, List.setIfInBounds_toArray, List.set_cons_zero, List.set_cons_succ, i64_w, i32_w]
                      rfl
                    refine pure_ (i := 17) (N := some 73) (v := ?_) (a' := ?_) #[true, true, true, false, true, false, false, false, true, false, false, true, false, true, false, false, false, true, false, false, false, false, false] rfl rfl (by kernel_rfl) (fun _ _ _ h => h) (Or.inl ⟨by rfl, ?_⟩) ?_ ?_
                    rotate_left
                    · intro w'
                      go_simp
                      with_reducible rfl
                    rotate_left
                    · simp only [Act.put, List.setIfInBounds_toArray, List.set_cons_zero, List.set_cons_succ, i64_w, i32_w]
                      rfl
                    refine take_ (i := 3) (N := some 59) (v := ?_) (a' := ?_) #[true, true, true, true, true, false, false, false, true, false, false, true, false, true, false, false, false, true, false, false, false, false, false] rfl rfl (by kernel_rfl) (fun _ _ _ h => h) (Or.inl ⟨by rfl, ?_⟩) hHeld ?_ ?_
                    rotate_left
                    · rintro w' ⟨s0, s1, s2, s3, s4⟩
                      go_simp
                      with_reducible rfl
                    rotate_left
                    · simp only [Act.put, List.setIfInBounds_toArray, List.set_cons_zero, List.set_cons_succ, i64_w, i32_w]
                      rfl
                    refine pure_ (i := 5) (N := some 61) (v := ?_) (a' := ?_) #[true, true, true, true, true, true, false, false, true, false, false, true, false, true, false, false, false, true, false, false, false, false, false] rfl rfl (by kernel_rfl) (fun _ _ _ h => h) (Or.inl ⟨by rfl, ?_⟩) ?_ ?_
                    rotate_left
                    · intro w'
                      go_simp
                      with_reducible rfl
                    rotate_left
                    · simp only [Act.put, List.setIfInBounds_toArray, List.set_cons_zero, List.set_cons_succ, i64_w, i32_w]
                      rfl
                    refine pure_ (i := 6) (N := some 62) (v := ?_) (a' := ?_) #[true, true, true, true, true, true, true, false, true, false, false, true, false, true, false, false, false, true, false, false, false, false, false] rfl rfl (by kernel_rfl) (fun _ _ _ h => h) (Or.inl ⟨by rfl, ?_⟩) ?_ ?_
                    rotate_left
                    · intro w'
                      go_simp
                      with_reducible rfl
                    rotate_left
                    · simp only [Act.put, List.setIfInBounds_toArray, List.set_cons_zero, List.set_cons_succ, i64_w, i32_w]
                      rfl
                    refine take_ (i := 7) (N := some 63) (v := ?_) (a' := ?_) #[true, true, true, true, true, true, true, true, true, false, false, true, false, true, false, false, false, true, false, false, false, false, false] rfl rfl (by kernel_rfl) (fun _ _ _ h => h) (Or.inl ⟨by rfl, ?_⟩) hHeld ?_ ?_
                    rotate_left
                    · rintro w' ⟨s0, s1, s2, s3, s4⟩
                      go_simp
                      with_reducible rfl
                    rotate_left
                    · simp only [Act.put, List.setIfInBounds_toArray, List.set_cons_zero, List.set_cons_succ, i64_w, i32_w]
                      rfl
                    refine pure_ (i := 9) (N := some 65) (v := ?_) (a' := ?_) #[true, true, true, true, true, true, true, true, true, true, false, true, false, true, false, false, false, true, false, false, false, false, false] rfl rfl (by kernel_rfl) (fun _ _ _ h => h) (Or.inl ⟨by rfl, ?_⟩) ?_ ?_
                    rotate_left
                    · intro w'
                      go_simp
                      with_reducible rfl
                    rotate_left
                    · simp only [Act.put, List.setIfInBounds_toArray, List.set_cons_zero, List.set_cons_succ, i64_w, i32_w]
                      rfl
                    refine take_ (i := 10) (N := some 66) (v := ?_) (a' := ?_) #[true, true, true, true, true, true, true, true, true, true, true, true, false, true, false, false, false, true, false, false, false, false, false] rfl rfl (by kernel_rfl) (fun _ _ _ h => h) (Or.inl ⟨by rfl, ?_⟩) hHeld ?_ ?_
                    rotate_left
                    · rintro w' ⟨s0, s1, s2, s3, s4⟩
                      go_simp
                      with_reducible rfl
                    rotate_left
                    · simp only [Act.put, List.setIfInBounds_toArray, List.set_cons_zero, List.set_cons_succ, i64_w, i32_w]
                      rfl
                    refine take_ (i := 12) (N := some 68) (v := ?_) (a' := ?_) #[true, true, true, true, true, true, true, true, true, true, true, true, true, true, false, false, false, true, false, false, false, false, false] rfl rfl (by kernel_rfl) (fun _ _ _ h => h) (Or.inl ⟨by rfl, ?_⟩) hHeld ?_ ?_
                    rotate_left
                    · rintro w' ⟨s0, s1, s2, s3, s4⟩
                      go_simp
                      with_reducible rfl
                    rotate_left
                    · simp only [Act.put, List.setIfInBounds_toArray, List.set_cons_zero, List.set_cons_succ, i64_w, i32_w]
                      rfl
                    refine pure_ (i := 14) (N := some 70) (v := ?_) (a' := ?_) #[true, true, true, true, true, true, true, true, true, true, true, true, true, true, true, false, false, true, false, false, false, false, false] rfl rfl (by kernel_rfl) (fun _ _ _ h => h) (Or.inl ⟨by rfl, ?_⟩) ?_ ?_
                    rotate_left
                    · intro w'
                      go_simp
                      with_reducible rfl
                    rotate_left
                    · simp only [Act.put, List.setIfInBounds_toArray, List.set_cons_zero, List.set_cons_succ, i64_w, i32_w]
                      rfl
                    refine pure_ (i := 15) (N := some 71) (v := ?_) (a' := ?_) #[true, true, true, true, true, true, true, true, true, true, true, true, true, true, true, true, false, true, false, false, false, false, false] rfl rfl (by kernel_rfl) (fun _ _ _ h => h) (Or.inl ⟨by rfl, ?_⟩) ?_ ?_
                    rotate_left
                    · intro w'
                      go_simp
                      with_reducible rfl
                    rotate_left
                    · simp only [Act.put, List.setIfInBounds_toArray, List.set_cons_zero, List.set_cons_succ, i64_w, i32_w]
                      rfl
                    refine take_ (i := 16) (N := some 72) (v := ?_) (a' := ?_) #[true, true, true, true, true, true, true, true, true, true, true, true, true, true, true, true, true, true, false, false, false, false, false] rfl rfl (by kernel_rfl) (fun _ _ _ h => h) (Or.inl ⟨by rfl, ?_⟩) hHeld ?_ ?_
                    rotate_left
                    · rintro w' ⟨s0, s1, s2, s3, s4⟩
                      go_simp
                      with_reducible rfl
                    rotate_left
                    · simp only [Act.put, List.setIfInBounds_toArray, List.set_cons_zero, List.set_cons_succ, i64_w, i32_w]
                      rfl
                    refine pure_ (i := 18) (N := some 74) (v := ?_) (a' := ?_) #[true, true, true, true, true, true, true, true, true, true, true, true, true, true, true, true, true, true, true, false, false, false, false] rfl rfl (by kernel_rfl) (fun _ _ _ h => h) (Or.inl ⟨by rfl, ?_⟩) ?_ ?_
                    rotate_left
                    · intro w'
                      go_simp
                      with_reducible rfl
                    rotate_left
                    · simp only [Act.put, List.setIfInBounds_toArray, List.set_cons_zero, List.set_cons_succ, i64_w, i32_w]
                      rfl
                    refine take_ (i := 19) (N := some 75) (v := ?_) (a' := ?_) #[true, true, true, true, true, true, true, true, true, true, true, true, true, true, true, true, true, true, true, true, false, false, false] rfl rfl (by kernel_rfl) (fun _ _ _ h => h) (Or.inl ⟨by rfl, ?_⟩) hHeld ?_ ?_
                    rotate_left
                    · rintro w' ⟨s0, s1, s2, s3, s4⟩
                      go_simp
                      with_reducible rfl
                    rotate_left
                    · simp only [Act.put, List.setIfInBounds_toArray, List.set_cons_zero, List.set_cons_succ, i64_w, i32_w]
                      rfl
                    refine pure_ (i := 20) (N := some 76) (v := ?_) (a' := ?_) #[true, true, true, true, true, true, true, true, true, true, true, true, true, true, true, true, true, true, true, true, true, false, false] rfl rfl (by kernel_rfl) (fun _ _ _ h => h) (Or.inl ⟨by rfl, ?_⟩) ?_ ?_
                    rotate_left
                    · intro w'
                      go_simp
                      with_reducible rfl
                    rotate_left
                    · simp only [Act.put, List.setIfInBounds_toArray, List.set_cons_zero, List.set_cons_succ, i64_w, i32_w]
                      rfl
                    refine pure_ (i := 21) (N := some 77) (v := ?_) (a' := ?_) #[true, true, true, true, true, true, true, true, true, true, true, true, true, true, true, true, true, true, true, true, true, true, false] rfl rfl (by kernel_rfl) (fun _ _ _ h => h) (Or.inl ⟨by rfl, ?_⟩) ?_ ?_
                    rotate_left
                    · intro w'
                      go_simp
                      with_reducible rfl
                    rotate_left
                    · simp only [Act.put, List.setIfInBounds_toArray, List.set_cons_zero, List.set_cons_succ, i64_w, i32_w]
                      rfl
                    refine pure_ (i := 22) (N := some 6) (v := ?_) (a' := ?_) #[true, true, true, true, true, true, true, true, true, true, true, true, true, true, true, true, true, true, true, true, true, true, true] rfl rfl (by kernel_rfl) (fun _ _ _ h => h) (Or.inl ⟨by rfl, ?_⟩) ?_ ?_
                    rotate_left
                    · intro w'
                      go_simp
                      with_reducible rfl
                    rotate_left
                    · simp only [Act.put, List.setIfInBounds_toArray, List.set_cons_zero, List.set_cons_succ, i64_w, i32_w]
                      rfl
                    refine done_ (by kernel_rfl) ?_
                    go_wp2
                    go_roundw
                    case rel => exact ⟨m + 1, hlm, by go_num, by rw [HSS.out], below_drew HM.out.1⟩
                    case measure => simp [intOf]; omega
                  · rw [Bool.true_or] at HSS
                    go_wp2
                    refine start_ (n := 23) (S := fun w' => w'.cell? ⟨w.heap.size, 1, none⟩ = some (.slice (some ad) l.length c)) (ds := []) #[false, false, false, false, false, false, false, false, false, false, false, false, false, false, false, false, false, false, false, false, false, false, false] (by kernel_rfl) rfl rfl ((by go_keep)) (fun hHeld => ?_)
                    refine pure_ (i := 0) (N := some 56) (v := ?_) (a' := ?_) #[true, false, false, false, false, false, false, false, false, false, false, false, false, false, false, false, false, false, false, false, false, false, false] rfl rfl (by kernel_rfl) (fun _ _ _ h => h) (Or.inl ⟨by rfl, ?_⟩) ?_ ?_
                    rotate_left
                    · intro w'
                      go_simp
                      with_reducible rfl
                    rotate_left
                    · simp only [Act.put, List.setIfInBounds_toArray, List.set_cons_zero, List.set_cons_succ, i64_w, i32_w]
                      rfl
                    refine pure_ (i := 1) (N := some 57) (v := ?_) (a' := ?_) #[true, true, false, false, false, false, false, false, false, false, false, false, false, false, false, false, false, false, false, false, false, false, false] rfl rfl (by kernel_rfl) (fun _ _ _ h => h) (Or.inl ⟨by rfl, ?_⟩) ?_ ?_
                    rotate_left
                    · intro w'
                      go_simp
                      with_reducible rfl
                    rotate_left
                    · simp only [Act.put, List.setIfInBounds_toArray, List.set_cons_zero, List.set_cons_succ, i64_w, i32_w]
                      rfl
                    refine pure_ (i := 2) (N := some 58) (v := undef) (a' := ?_) #[true, true, true, false, false, false, false, false, false, false, false, false, false, false, false, false, false, false, false, false, false, false, false] rfl rfl (by kernel_rfl) (fun _ _ _ h => h) (Or.inr ⟨by rfl, rfl⟩) ?_ ?_
                    rotate_left
                    · simp only [Act.put, List.setIfInBounds_toArray, List.set_cons_zero, List.set_cons_succ, i64_w, i32_w]
                      rfl
                    refine pure_ (i := 3) (N := some 59) (v := undef) (a' := ?_) #[true, true, true, true, false, false, false, false, false, false, false, false, false, false, false, false, false, false, false, false, false, false, false] rfl rfl (by kernel_rfl) (fun _ _ _ h => h) (Or.inr ⟨by rfl, rfl⟩) ?_ ?_
                    rotate_left
                    · simp only [Act.put, List.setIfInBounds_toArray, List.set_cons_zero, List.set_cons_succ, i64_w, i32_w]
                      rfl
                    refine pure_ (i := 4) (N := some 60) (v := undef) (a' := ?_) #[true, true, true, true, true, false, false, false, false, false, false, false, false, false, false, false, false, false, false, false, false, false, false] rfl rfl (by kernel_rfl) (fun _ _ _ h => h) (Or.inr ⟨by rfl, rfl⟩) ?_ ?_
                    rotate_left
                    · simp only [Act.put, List.setIfInBounds_toArray, List.set_cons_zero, List.set_cons_succ, i64_w, i32_w]
                      rfl
                    refine pure_ (i := 5) (N := some 61) (v := undef) (a' := ?_) #[true, true, true, true, true, true, false, false, false, false, false, false, false, false, false, false, false, false, false, false, false, false, false] rfl rfl (by kernel_rfl) (fun _ _ _ h => h) (Or.inr ⟨by rfl, rfl⟩) ?_ ?_
                    rotate_left
                    · simp only [Act.put, List.setIfInBounds_toArray, List.set_cons_zero, List.set_cons_succ, i64_w, i32_w]
                      rfl
                    refine pure_ (i := 6) (N := some 62) (v := undef) (a' := ?_) #[true, true, true, true, true, true, true, false, false, false, false, false, false, false, false, false, false, false, false, false, false, false, false] rfl rfl (by kernel_rfl) (fun _ _ _ h => h) (Or.inr ⟨by rfl, rfl⟩) ?_ ?_
                    rotate_left
                    · simp only [Act.put, List.setIfInBounds_toArray, List.set_cons_zero, List.set_cons_succ, i64_w, i32_w]
                      rfl
                    refine pure_ (i := 7) (N := some 63) (v := undef) (a' := ?_) #[true, true, true, true, true, true, true, true, false, false, false, false, false, false, false, false, false, false, false, false, false, false, false] rfl rfl (by kernel_rfl) (fun _ _ _ h => h) (Or.inr ⟨by rfl, rfl⟩) ?_ ?_
                    rotate_left
                    · simp only [Act.put, List.setIfInBounds_toArray, List.set_cons_zero, List.set_cons_succ, i64_w, i32_w]
                      rfl
                    refine pure_ (i := 8) (N := some 64) (v := undef) (a' := ?_) #[true, true, true, true, true, true, true, true, true, false, false, false, false, false, false, false, false, false, false, false, false, false, false] rfl rfl (by kernel_rfl) (fun _ _ _ h => h) (Or.inr ⟨by rfl, rfl⟩) ?_ ?_
                    rotate_left
                    · simp only [Act.put, List.setIfInBounds_toArray, List.set_cons_zero, List.set_cons_succ, i64_w, i32_w]
                      rfl
                    refine pure_ (i := 9) (N := some 65) (v := undef) (a' := ?_) #[true, true, true, true, true, true, true, true, true, true, false, false, false, false, false, false, false, false, false, false, false, false, false] rfl rfl (by kernel_rfl) (fun _ _ _ h => h) (Or.inr ⟨by rfl, rfl⟩) ?_ ?_
                    rotate_left
                    · simp only [Act.put, List.setIfInBounds_toArray, List.set_cons_zero, List.set_cons_succ, i64_w, i32_w]
                      rfl
                    refine pure_ (i := 10) (N := some 66) (v := undef) (a' := ?_) #[true, true, true, true, true, true, true, true, true, true, true, false, false, false, false, false, false, false, false, false, false, false, false] rfl rfl (by kernel_rfl) (fun _ _ _ h => h) (Or.inr ⟨by rfl, rfl⟩) ?_ ?_
                    rotate_left
                    · simp only [Act.put, List.setIfInBounds_toArray, List.set_cons_zero, List.set_cons_succ, i64_w, i32_w]
                      rfl
                    refine pure_ (i := 11) (N := some 67) (v := undef) (a' := ?_) #[true, true, true, true, true, true, true, true, true, true, true, true, false, false, false, false, false, false, false, false, false, false, false] rfl rfl (by kernel_rfl) (fun _ _ _ h => h) (Or.inr ⟨by rfl, rfl⟩) ?_ ?_
                    rotate_left
                    · simp only [Act.put, List.setIfInBounds_toArray, List.set_cons_zero, List.set_cons_succ, i64_w, i32_w]
                      rfl
                    refine pure_ (i := 12) (N := some 68) (v := undef) (a' := ?_) #[true, true, true, true, true, true, true, true, true, true, true, true, true, false, false, false, false, false, false, false, false, false, false] rfl rfl (by kernel_rfl) (fun _ _ _ h => h) (Or.inr ⟨by rfl, rfl⟩) ?_ ?_
                    rotate_left
                    · simp only [Act.put, List.setIfInBounds_toArray, List.set_cons_zero, List.set_cons_succ, i64_w, i32_w]
                      rfl
                    refine pure_ (i := 13) (N := some 69) (v := undef) (a' := ?_) #[true, true, true, true, true, true, true, true, true, true, true, true, true, true, false, false, false, false, false, false, false, false, false] rfl rfl (by kernel_rfl) (fun _ _ _ h => h) (Or.inr ⟨by rfl, rfl⟩) ?_ ?_
                    rotate_left
                    · simp only [Act.put, List.setIfInBounds_toArray, List.set_cons_zero, List.set_cons_succ, i64_w, i32_w]
                      rfl
                    refine pure_ (i := 14) (N := some 70) (v := undef) (a' := ?_) #[true, true, true, true, true, true, true, true, true, true, true, true, true, true, true, false, false, false, false, false, false, false, false] rfl rfl (by kernel_rfl) (fun _ _ _ h => h) (Or.inr ⟨by rfl, rfl⟩) ?_ ?_
                    rotate_left
                    · simp only [Act.put, List.setIfInBounds_toArray, List.set_cons_zero, List.set_cons_succ, i64_w, i32_w]
                      rfl
                    refine pure_ (i := 15) (N := some 71) (v := undef) (a' := ?_) #[true, true, true, true, true, true, true, true, true, true, true, true, true, true, true, true, false, false, false, false, false, false, false] rfl rfl (by kernel_rfl) (fun _ _ _ h => h) (Or.inr ⟨by rfl, rfl⟩) ?_ ?_
                    rotate_left
                    · simp only [Act.put, List.setIfInBounds_toArray, List.set_cons_zero, List.set_cons_succ, i64_w, i32_w]
                      rfl
                    refine pure_ (i := 16) (N := some 72) (v := undef) (a' := ?_) #[true, true, true, true, true, true, true, true, true, true, true, true, true, true, true, true, true, false, false, false, false, false, false] rfl rfl (by kernel_rfl) (fun _ _ _ h => h) (Or.inr ⟨by rfl, rfl⟩) ?_ ?_
                    rotate_left
                    · simp only [Act.put, List.setIfInBounds_toArray, List.set_cons_zero, List.set_cons_succ, i64_w, i32_w]
                      rfl
                    refine pure_ (i := 17) (N := some 73) (v := undef) (a' := ?_) #[true, true, true, true, true, true, true, true, true, true, true, true, true, true, true, true, true, true, false, false, false, false, false] rfl rfl (by kernel_rfl) (fun _ _ _ h => h) (Or.inr ⟨by rfl, rfl⟩) ?_ ?_
                    rotate_left
                    · simp only [Act.put, List.setIfInBounds_toArray, List.set_cons_zero, List.set_cons_succ, i64_w, i32_w]
                      rfl
                    refine pure_ (i := 18) (N := some 74) (v := undef) (a' := ?_) #[true, true, true, true, true, true, true, true, true, true, true, true, true, true, true, true, true, true, true, false, false, false, false] rfl rfl (by kernel_rfl) (fun _ _ _ h => h) (Or.inr ⟨by rfl, rfl⟩) ?_ ?_
                    rotate_left
                    · simp only [Act.put, List.setIfInBounds_toArray, List.set_cons_zero, List.set_cons_succ, i64_w, i32_w]
                      rfl
                    refine pure_ (i := 19) (N := some 75) (v := undef) (a' := ?_) #[true, true, true, true, true, true, true, true, true, true, true, true, true, true, true, true, true, true, true, true, false, false, false] rfl rfl (by kernel_rfl) (fun _ _ _ h => h) (Or.inr ⟨by rfl, rfl⟩) ?_ ?_
                    rotate_left
                    · simp only [Act.put, List.setIfInBounds_toArray, List.set_cons_zero, List.set_cons_succ, i64_w, i32_w]
                      rfl
                    refine pure_ (i := 20) (N := some 76) (v := undef) (a' := ?_) #[true, true, true, true, true, true, true, true, true, true, true, true, true, true, true, true, true, true, true, true, true, false, false] rfl rfl (by kernel_rfl) (fun _ _ _ h => h) (Or.inr ⟨by rfl, rfl⟩) ?_ ?_
                    rotate_left
                    · simp only [Act.put, List.setIfInBounds_toArray, List.set_cons_zero, List.set_cons_succ, i64_w, i32_w]
                      rfl
                    refine pure_ (i := 21) (N := some 77) (v := ?_) (a' := ?_) #[true, true, true, true, true, true, true, true, true, true, true, true, true, true, true, true, true, true, true, true, true, true, false] rfl rfl (by kernel_rfl) (fun _ _ _ h => h) (Or.inl ⟨by rfl, ?_⟩) ?_ ?_
                    rotate_left
                    · intro w'
                      go_simp
                      with_reducible rfl
                    rotate_left
                    · simp only [Act.put, List.setIfInBounds_toArray, List.set_cons_zero, List.set_cons_succ, i64_w, i32_w]
                      rfl
                    refine pure_ (i := 22) (N := some 6) (v := ?_) (a' := ?_) #[true, true, true, true, true, true, true, true, true, true, true, true, true, true, true, true, true, true, true, true, true, true, true] rfl rfl (by kernel_rfl) (fun _ _ _ h => h) (Or.inl ⟨by rfl, ?_⟩) ?_ ?_
                    rotate_left
                    · intro w'
                      go_simp
                      with_reducible rfl
                    rotate_left
                    · simp only [Act.put, List.setIfInBounds_toArray, List.set_cons_zero, List.set_cons_succ, i64_w, i32_w]
                      rfl
                    refine done_ (by kernel_rfl) ?_
                    go_wp2
                    go_roundw
                    case rel => exact ⟨m + 1, hlm, by go_num, by rw [HSS.out], below_drew HM.out.1⟩
                    case measure => simp [intOf]; omega
                · have hd4 : decide ((m : Int) < ((stepAt l j).keys.length : Int)) = false := decide_eq_false (by omega)
                  have hm' : m = (stepAt l j).keys.length := by omega
                  have HE2 : Aside0 (hasK (heldKeys (l.take j) ++ (stepAt l j).keys.take m) key = hasK (heldKeys (l.take (j + 1))) key) := ⟨by rw [hm']; exact HE.out⟩
                  clear hm'
                  go_wp2
                  go_roundw
                  case rel => exact ⟨j + 1, hlj, by go_num, by rw [HE2.out], HM.out.1⟩
                  case measure => simp [intOf]; omega
          · have hj' : j = l.length := by omega
            subst hj'
            have hd3 : decide ((l.length : Int) < (l.length : Int)) = false := decide_eq_false (by omega)
            have HT := Aside0.mk (List.take_length (l := l))
            rw [HT.out]
            generalize hfb : hasK (heldKeys l) key = fb at *
            cases fb
            · have HX := Aside0.mk (HAN.out (by rw [HHS.out]; rfl))
              go_wp2
              go_ret
              rw [HX.out]
              exact ⟨rfl, HJ.out.2⟩
            · go_wp2
              go_roundw
              case rel => exact ⟨k + 1, hlt, by go_num, HST.out (by rw [HHS.out]; rfl), HJ.out.1⟩
              case measure => simp [intOf]; omega
      · have hd2 : decide ((k : Int) < ((stepAt l i).keys.length : Int)) = false := decide_eq_false (by omega)
        have HX : Aside0 (rr = false) := ⟨by rw [HF.out]; exact any_take HG.out.1 (by omega)⟩
        go_wp2
        go_ret
        rw [HX.out]
        exact ⟨rfl, HG.out.2.2⟩
end Go.Proofs.YthlgcibckakhbaaDoor.Pl

/- odysseyref11.together, Check: the walks, by hand. -/
namespace Go.Proofs.YthlgcibckakhbaaDoor.Pl
open Go.RowKit Go.IntWalk Go.Proofs.YthlgcibckakhbaaDoorW.PrintWords Go.Proofs.YthlgcibckakhbaaDoor.PlName

theorem allOf_false {p : Nat → Bool} {n j : Nat} (hj : j < n) (h : p j = true) : allOf p n = false := by
  unfold allOf
  rw [Bool.not_eq_false', List.any_eq_true]
  exact ⟨j, List.mem_range'_1.2 ⟨by omega, by omega⟩, h⟩
theorem allOf_true {p : Nat → Bool} {n : Nat} (h : ∀ j, j < n → p j = false) : allOf p n = true := by
  unfold allOf
  rw [Bool.not_eq_true', List.any_eq_false]
  intro x hx
  have := List.mem_range'_1.1 hx
  rw [h x (by omega)]
  simp
noncomputable def togetherOk (l : List Step) : Bool := allOf (fun i => decide (1 < pivots l (i + 1))) l.length && (allOf (ordersBad l) l.length && (allOf (ringAt l) l.length && allOf (lacksHeld l (heldF l)) l.length))
theorem pivots_snoc {l : List Step} {i : Nat} (h : i < l.length) : pivots l (i + 1) = pivots l i + if (stepAt l i).kind = 2 then 1 else 0 := by
  unfold pivots
  rw [List.take_add_one, stepAt_eq h, List.filter_append, List.length_append]
  by_cases e : (stepAt l i).kind = 2 <;> simp [e]
/-- The worlds of together. -/
structure Tg (w wr : World) (nm : ByteArray) (l : List Step) (ad : Addr) (c : Nat) : Prop where
  below : Below w.heap.size w wr
  box : wr.heap[w.heap.size]? = some (.cells #[.string nm, .slice (some ad) l.length c] 24 (0, 0))
theorem Tg.on {w wr w2 : World} {nm : ByteArray} {l : List Step} {ad : Addr} {c : Nat} (h : Tg w wr nm l ad c) (hb : Below wr.heap.size wr w2) : Tg w w2 nm l ad c := ⟨on_ h.below hb, row_on hb h.box⟩
theorem Tg.cells {w wr : World} {nm : ByteArray} {l : List Step} {ad : Addr} {c : Nat} (h : Tg w wr nm l ad c) : wr.cell? ⟨w.heap.size, 0, none⟩ = some (.string nm) ∧ wr.cell? ⟨w.heap.size, 1, none⟩ = some (.slice (some ad) l.length c) :=
  ⟨row_cell h.box rfl, row_cell h.box rfl⟩
theorem upto {p : Nat → Bool} {k : Nat} (h : ∀ j, j < k → p j = false) (hk : p k = false) : ∀ j, j < k + 1 → p j = false := fun j hj => by
  rcases Nat.lt_succ_iff_lt_or_eq.1 hj with h2 | h2
  · exact h j h2
  · exact h2 ▸ hk

set_option linter.unusedSimpArgs false in
set_option linter.unusedVariables false in
set_option maxHeartbeats 16000000 in
set_option maxRecDepth 100000 in
theorem togetherR_calls (nm : ByteArray) (l : List Step) (ad : Addr) (c : Nat) (w : World) (hS : StepsAt w (some ad) l) (hl8 : l.length ≤ 8) (hin : ∀ k, k < l.length → Within l (stepAt l k) ∧ (stepAt l k).needs.length ≤ 8) (hk2 : ∀ k, k < l.length → (stepAt l k).keys.length ≤ 2) :
    Calls Tryd.prog 16 #[.agg #[.string nm, .slice (some ad) l.length c]] w fun e w' => (∃ a b, e = .returned (.tuple #[.int .i64 a, .int .i64 b]) ∧ (b == 0) = togetherOk l) ∧ Below w.heap.size w w' := by
  have HT0 := Aside0.mk (Tg.mk (below_one w (.cells #[.string nm, .slice (some ad) l.length c] 24)) (alloc1 w (.cells #[.string nm, .slice (some ad) l.length c] 24)))
  have HA := Aside0.mk hS
  have HC1 := Aside0.mk (fun W (h : Below w.heap.size w W) i (hi : i < l.length) => orderR_calls nm l ad c i W (hS.below h) hi (hin i hi))
  have HC2 := Aside0.mk (fun W (h : Below w.heap.size w W) i (hi : i < l.length) => ringR_calls nm l ad c i W (hS.below h) hi hl8 hin)
  have HC3 := Aside0.mk (fun W (h : Below w.heap.size w W) i (hi : i < l.length) => looseR_calls nm l ad c i W (hS.below h) hi hl8 hk2)
  have HF : Aside0 (togetherOk l = (allOf (fun i => decide (1 < pivots l (i + 1))) l.length && (allOf (ordersBad l) l.length && (allOf (ringAt l) l.length && allOf (lacksHeld l (heldF l)) l.length)))) := ⟨rfl⟩
  clear hS hin hk2
  generalize togetherOk l = rr at *
  go_enter Tryd.func16, Tryd.ntmps16
  go_wp2
  generalize World.alloc w _ = w0 at *
  go_loopw [4, 5] (fun v4 v5 wr => ∃ i : Nat, i ≤ l.length ∧ v5 = .int .i64 (i : Int) ∧ v4 = .int .i64 (pivots l i : Int) ∧ pivots l i ≤ 1 ∧ (∀ j, j < i → decide (1 < pivots l (j + 1)) = false) ∧ Tg w wr nm l ad c) (fun _ v5 _ => l.length - (intOf v5).toNat)
  case atStart => exact ⟨0, Nat.zero_le _, rfl, rfl, Nat.zero_le _, fun j hj => absurd hj (Nat.not_lt_zero _), HT0.out⟩
  case round =>
    obtain ⟨i, hi, rfl, rfl, hp1, hal, hT⟩ := hrel
    have HG := Aside0.mk (And.intro hal hT)
    obtain ⟨hq0, hq1⟩ := hT.cells
    clear hal hT
    by_cases hlt : i < l.length
    · have hd2 : decide ((i : Int) < (l.length : Int)) = true := decide_eq_true (by omega)
      obtain ⟨_, e1, A1, c1, A2, c2, h1⟩ := HA.out.one (stepAt_eq hlt)
      cases e1
      have hs1 := (h1.below HG.out.2.below).c1_
      have HP := Aside0.mk (pivots_snoc hlt)
      clear h1
      generalize hpv : pivots l i = pv at *
      by_cases hk : (stepAt l i).kind = 2
      · have hd3 : ((stepAt l i).kind == 2) = true := beq_iff_eq.2 hk
        have HP2 : Aside0 (pivots l (i + 1) = pv + 1) := ⟨by rw [HP.out, if_pos hk]⟩
        clear hk
        by_cases hpe : pv = 1
        · subst hpe
          have HX : Aside0 (rr = false) := ⟨by rw [HF.out, allOf_false hlt (by rw [HP2.out]; rfl)]; rfl⟩
          go_wp2
          go_ret2
          rw [HX.out]
          exact ⟨⟨_, _, rfl, rfl⟩, HG.out.2.below⟩
        · have hp0 : pv = 0 := by omega
          subst hp0
          have HS2 : Aside0 (∀ j, j < i + 1 → decide (1 < pivots l (j + 1)) = false) := ⟨upto HG.out.1 (by rw [HP2.out]; rfl)⟩
          go_wp2
          go_roundw
          case rel => exact ⟨i + 1, hlt, by go_num, by rw [HP2.out]; rfl, by rw [HP2.out]; omega, HS2.out, HG.out.2⟩
          case measure => simp [intOf]; omega
      · have hd3 : ((stepAt l i).kind == 2) = false := beq_eq_false_iff_ne.2 hk
        have HP2 : Aside0 (pivots l (i + 1) = pv) := ⟨by rw [HP.out, if_neg hk]; rfl⟩
        clear hk
        have HS2 : Aside0 (∀ j, j < i + 1 → decide (1 < pivots l (j + 1)) = false) := ⟨upto HG.out.1 (by rw [HP2.out]; exact decide_eq_false (by omega))⟩
        have hd5 : ((pv : Int) == 2) = false := beq_eq_false_iff_ne.2 (by omega)
        go_wp2
        go_roundw
        case rel => exact ⟨i + 1, hlt, by go_num, by rw [HP2.out], by rw [HP2.out]; exact hp1, HS2.out, HG.out.2⟩
        case measure => simp [intOf]; omega
    · have hi' : i = l.length := by omega
      subst hi'
      have hd2 : decide ((l.length : Int) < (l.length : Int)) = false := decide_eq_false (by omega)
      replace HF : Aside0 (rr = (allOf (ordersBad l) l.length && (allOf (ringAt l) l.length && allOf (lacksHeld l (heldF l)) l.length))) := ⟨by rw [HF.out, allOf_true HG.out.1, Bool.true_and]⟩
      have HT1 := Aside0.mk HG.out.2
      clear HG hp1
      generalize pivots l l.length = pv at *
      go_wp2
      clear hq0 hq1
      go_loopw [6] (fun v wr => ∃ i : Nat, i ≤ l.length ∧ v = .int .i64 (i : Int) ∧ (∀ j, j < i → (ordersBad l) j = false) ∧ Tg w wr nm l ad c) (fun v _ => l.length - (intOf v).toNat)
      case atStart => exact ⟨0, Nat.zero_le _, rfl, fun j hj => absurd hj (Nat.not_lt_zero _), HT1.out⟩
      case round =>
        obtain ⟨i, hi, rfl, hal, hT⟩ := hrel
        have HG := Aside0.mk (And.intro hal hT)
        obtain ⟨hq0, hq1⟩ := hT.cells
        clear hal hT HT1
        by_cases hlt : i < l.length
        · have hd2 : decide ((i : Int) < (l.length : Int)) = true := decide_eq_true (by omega)
          have hcall := Aside0.mk (HC1.out _ HG.out.2.below i hlt)
          have HST : Aside0 ((ordersBad l) i = false → ∀ j, j < i + 1 → (ordersBad l) j = false) := ⟨fun h => upto HG.out.1 h⟩
          have HXX : Aside0 ((ordersBad l) i = true → rr = false) := ⟨fun h => by rw [HF.out, allOf_false hlt h]; try rfl⟩
          generalize (ordersBad l) i = b at *
          cases b
          · replace HST := Aside0.mk (HST.out rfl)
            go_wp2_with (first | (go_at_call 33; refine hcall.out.mono ?_; rintro e w2 ⟨rfl, hb2⟩; have H2 := Aside0.mk (HG.out.2.on hb2); clear hb2))
            go_roundw
            case rel => exact ⟨i + 1, hlt, by go_num, HST.out, H2.out⟩
            case measure => simp [intOf]; omega
          · replace HXX := Aside0.mk (HXX.out rfl)
            go_wp2_with (first | (go_at_call 33; refine hcall.out.mono ?_; rintro e w2 ⟨rfl, hb2⟩; have H2 := Aside0.mk (HG.out.2.on hb2); clear hb2))
            go_ret2
            rw [HXX.out]
            exact ⟨⟨_, _, rfl, rfl⟩, H2.out.below⟩
        · have hi' : i = l.length := by omega
          subst hi'
          have hd2 : decide ((l.length : Int) < (l.length : Int)) = false := decide_eq_false (by omega)
          replace HF : Aside0 (rr = (allOf (ringAt l) l.length && allOf (lacksHeld l (heldF l)) l.length)) := ⟨by rw [HF.out, allOf_true HG.out.1, Bool.true_and]⟩
          have HT2 := Aside0.mk HG.out.2
          clear HG
          go_wp2
          clear hq0 hq1
          go_loopw [8] (fun v wr => ∃ i : Nat, i ≤ l.length ∧ v = .int .i64 (i : Int) ∧ (∀ j, j < i → (ringAt l) j = false) ∧ Tg w wr nm l ad c) (fun v _ => l.length - (intOf v).toNat)
          case atStart => exact ⟨0, Nat.zero_le _, rfl, fun j hj => absurd hj (Nat.not_lt_zero _), HT2.out⟩
          case round =>
            obtain ⟨i, hi, rfl, hal, hT⟩ := hrel
            have HG := Aside0.mk (And.intro hal hT)
            obtain ⟨hq0, hq1⟩ := hT.cells
            clear hal hT HT2
            by_cases hlt : i < l.length
            · have hd2 : decide ((i : Int) < (l.length : Int)) = true := decide_eq_true (by omega)
              have hcall := Aside0.mk (HC2.out _ HG.out.2.below i hlt)
              have HST : Aside0 ((ringAt l) i = false → ∀ j, j < i + 1 → (ringAt l) j = false) := ⟨fun h => upto HG.out.1 h⟩
              have HXX : Aside0 ((ringAt l) i = true → rr = false) := ⟨fun h => by rw [HF.out, allOf_false hlt h]; try rfl⟩
              generalize (ringAt l) i = b at *
              cases b
              · replace HST := Aside0.mk (HST.out rfl)
                go_wp2_with (first | (go_at_call 34; refine hcall.out.mono ?_; rintro e w2 ⟨rfl, hb2⟩; have H2 := Aside0.mk (HG.out.2.on hb2); clear hb2))
                go_roundw
                case rel => exact ⟨i + 1, hlt, by go_num, HST.out, H2.out⟩
                case measure => simp [intOf]; omega
              · replace HXX := Aside0.mk (HXX.out rfl)
                go_wp2_with (first | (go_at_call 34; refine hcall.out.mono ?_; rintro e w2 ⟨rfl, hb2⟩; have H2 := Aside0.mk (HG.out.2.on hb2); clear hb2))
                go_ret2
                rw [HXX.out]
                exact ⟨⟨_, _, rfl, rfl⟩, H2.out.below⟩
            · have hi' : i = l.length := by omega
              subst hi'
              have hd2 : decide ((l.length : Int) < (l.length : Int)) = false := decide_eq_false (by omega)
              replace HF : Aside0 (rr = allOf (lacksHeld l (heldF l)) l.length) := ⟨by rw [HF.out, allOf_true HG.out.1, Bool.true_and]⟩
              have HT3 := Aside0.mk HG.out.2
              clear HG
              go_wp2
              clear hq0 hq1
              go_loopw [10] (fun v wr => ∃ i : Nat, i ≤ l.length ∧ v = .int .i64 (i : Int) ∧ (∀ j, j < i → (lacksHeld l (heldF l)) j = false) ∧ Tg w wr nm l ad c) (fun v _ => l.length - (intOf v).toNat)
              case atStart => exact ⟨0, Nat.zero_le _, rfl, fun j hj => absurd hj (Nat.not_lt_zero _), HT3.out⟩
              case round =>
                obtain ⟨i, hi, rfl, hal, hT⟩ := hrel
                have HG := Aside0.mk (And.intro hal hT)
                obtain ⟨hq0, hq1⟩ := hT.cells
                clear hal hT HT3
                by_cases hlt : i < l.length
                · have hd2 : decide ((i : Int) < (l.length : Int)) = true := decide_eq_true (by omega)
                  have hcall := Aside0.mk (HC3.out _ HG.out.2.below i hlt)
                  have HST : Aside0 ((lacksHeld l (heldF l)) i = false → ∀ j, j < i + 1 → (lacksHeld l (heldF l)) j = false) := ⟨fun h => upto HG.out.1 h⟩
                  have HXX : Aside0 ((lacksHeld l (heldF l)) i = true → rr = false) := ⟨fun h => by rw [HF.out, allOf_false hlt h]; try rfl⟩
                  generalize (lacksHeld l (heldF l)) i = b at *
                  cases b
                  · replace HST := Aside0.mk (HST.out rfl)
                    go_wp2_with (first | (go_at_call 35; refine hcall.out.mono ?_; rintro e w2 ⟨rfl, hb2⟩; have H2 := Aside0.mk (HG.out.2.on hb2); clear hb2))
                    go_roundw
                    case rel => exact ⟨i + 1, hlt, by go_num, HST.out, H2.out⟩
                    case measure => simp [intOf]; omega
                  · replace HXX := Aside0.mk (HXX.out rfl)
                    go_wp2_with (first | (go_at_call 35; refine hcall.out.mono ?_; rintro e w2 ⟨rfl, hb2⟩; have H2 := Aside0.mk (HG.out.2.on hb2); clear hb2))
                    go_ret2
                    rw [HXX.out]
                    exact ⟨⟨_, _, rfl, rfl⟩, H2.out.below⟩
                · have hi' : i = l.length := by omega
                  subst hi'
                  have hd2 : decide ((l.length : Int) < (l.length : Int)) = false := decide_eq_false (by omega)
                  have HX : Aside0 (rr = true) := ⟨by rw [HF.out, allOf_true HG.out.1]⟩
                  go_wp2
                  go_ret2
                  rw [HX.out]
                  exact ⟨⟨_, _, rfl, rfl⟩, HG.out.2.below⟩

set_option linter.unusedSimpArgs false in
set_option linter.unusedVariables false in
set_option maxHeartbeats 16000000 in
set_option maxRecDepth 100000 in
theorem refCheck_calls (nm : ByteArray) (l : List Step) (A : Option Addr) (c : Nat) (w : World) (hnm : nm.size ≤ 140737488351232) (hS : StepsAt w A l) (hb : ∀ s ∈ l, StepB s) (hn : l.length ≤ 9000000000000) (hc : l.length ≤ c) :
    Calls Tryd.prog 6 #[.agg #[.string nm, .slice A l.length c]] w fun e w' => (∃ a b, e = .returned (.tuple #[.int .i64 a, .int .i64 b]) ∧ (b == 0) = defOk nm l) ∧ Below w.heap.size w w' := by
  have HC53 : Aside0 (∀ W, Calls Tryd.prog 14 #[.string nm] W fun e w' => e = .returned (.bool (Nm.isName nm)) ∧ Below W.heap.size W w') := ⟨fun W => isR_calls _ W (by omega)⟩
  have hbb := below_one w (.cells #[.string nm, .slice A l.length c] 24)
  have hr0 := alloc1 w (.cells #[.string nm, .slice A l.length c] 24)
  have HW := Aside0.mk (And.intro hbb hr0)
  have HA := Aside0.mk (And.intro hS hb)
  have hdef : Aside0 (defOk nm l = (Nm.isName nm && (decide (1 ≤ l.length ∧ l.length ≤ 8) && ((List.range' 0 l.length).all (fun i => aloneOk l i (stepAt l i)) && togetherOk l)))) := ⟨rfl⟩
  generalize defOk nm l = rr at *
  clear hbb hr0 hS hb
  go_enter Tryd.func6, Tryd.ntmps6
  cases hnn : Nm.isName nm
  · rw [hnn] at HC53 hdef
    go_wp2_with (first | (go_at_call 14; refine (HC53.out _).mono ?_; rintro e w1 ⟨rfl, hb1⟩))
    go_ret2
    rw [hdef.out]
    exact ⟨⟨_, _, rfl, rfl⟩, on_ HW.out.1 hb1⟩
  · rw [hnn] at HC53 hdef
    by_cases h1 : 1 ≤ l.length ∧ l.length ≤ 8
    · have hd1 : decide ((l.length : Int) < 1) = false := decide_eq_false (by omega)
      have hd2 : decide (8 < (l.length : Int)) = false := decide_eq_false (by omega)
      replace hdef := Aside0.mk (hdef.out.trans (by rw [decide_eq_true h1, Bool.true_and, Bool.true_and]))
      have hl8 : l.length ≤ 8 := h1.2
      obtain ⟨ad, rfl, _⟩ := HA.out.1.one (stepAt_eq (l := l) (i := 0) (by omega))
      have HT0 := Aside0.mk (Tg.mk HW.out.1 HW.out.2 : Tg w _ nm l ad c)
      clear h1 HW
      go_wp2_with (first | (go_at_call 14; refine (HC53.out _).mono ?_; rintro e w1 ⟨rfl, hb1⟩; have HK1 := Aside0.mk (HT0.out.on hb1); have hq1 := HK1.out.cells.2; clear hb1))
      clear hq1 HT0 HC53
      go_loopw [5] (fun v5 wr => ∃ i : Nat, i ≤ l.length ∧ v5 = .int .i64 (i : Int) ∧ (∀ j, j < i → aloneOk l j (stepAt l j) = true) ∧ Tg w wr nm l ad c) (fun v5 _ => l.length - (intOf v5).toNat)
      case atStart => exact ⟨0, Nat.zero_le _, rfl, fun j hj => absurd hj (Nat.not_lt_zero _), HK1.out⟩
      case round =>
        obtain ⟨i, hi, rfl, hal, hck⟩ := hrel
        have HAL := Aside0.mk (And.intro hal hck)
        obtain ⟨hq0, hq1⟩ := hck.cells
        clear hal hck HK1
        by_cases hlt : i < l.length
        · have hd3 : decide ((i : Int) < (l.length : Int)) = true := decide_eq_true (by omega)
          have hcall := Aside0.mk (aloneR_calls nm l (some ad) c i (stepAt l i) _ (stepAt_eq hlt) (HA.out.1.below HAL.out.2.below) (HA.out.2 _ (List.mem_of_getElem? (stepAt_eq hlt))) hl8 hc)
          have HR := Aside0.mk (aloneE_ok l i (stepAt l i))
          generalize aloneE l i (stepAt l i) = r at *
          cases hok : (r == 0)
          · have hd4 : (r != 0) = true := by rw [bne, hok]; rfl
            have HF : Aside0 (rr = false) := ⟨by rw [hdef.out, all_range_false hlt (by rw [← HR.out, hok])]; rfl⟩
            go_wp2_with (first | (go_at_call 15; refine hcall.out.mono ?_; rintro e w2 ⟨rfl, hb2⟩))
            go_ret2
            rw [HF.out]
            exact ⟨⟨_, _, rfl, hok⟩, on_ HAL.out.2.below hb2⟩
          · have hd4 : (r != 0) = false := by rw [bne, hok]; rfl
            have HOK : Aside0 (aloneOk l i (stepAt l i) = true) := ⟨by rw [← HR.out, hok]⟩
            go_wp2_with (first | (go_at_call 15; refine hcall.out.mono ?_; rintro e w2 ⟨rfl, hb2⟩))
            go_roundw
            case rel => exact ⟨i + 1, hlt, by go_num, fun j hj => by rcases Nat.lt_succ_iff_lt_or_eq.1 hj with h | h; exact HAL.out.1 j h; exact h ▸ HOK.out, HAL.out.2.on hb2⟩
            case measure => simp [intOf]; omega
        · have hi' : i = l.length := by omega
          subst hi'
          have hd3 : decide ((l.length : Int) < (l.length : Int)) = false := decide_eq_false (by omega)
          replace hdef := Aside0.mk (hdef.out.trans (by rw [all_range HAL.out.1, Bool.true_and]))
          have htg := Aside0.mk (togetherR_calls nm l ad c _ (HA.out.1.below HAL.out.2.below) hl8 (fun k hk => needs_in hl8 (HAL.out.1 k hk)) (fun k hk => keys_two (HAL.out.1 k hk)))
          go_wp2_with (first | (go_at_call 16; refine htg.out.mono ?_; rintro e w2 ⟨⟨xa, xb, rfl, hxb⟩, hb2⟩; replace hxb := Aside0.mk hxb))
          go_ret2
          exact ⟨⟨_, _, rfl, by rw [hxb.out, hdef.out]⟩, on_ HAL.out.2.below hb2⟩
    · have HF : Aside0 (rr = false) := ⟨by rw [hdef.out, decide_eq_false h1]; rfl⟩
      have hl8 : (l.length : Int) < 1 ∨ (8 < (l.length : Int) ∧ ¬ (l.length : Int) < 1) := by omega
      clear h1
      rcases hl8 with h0 | ⟨h8, h9⟩
      · have hd1 : decide ((l.length : Int) < 1) = true := decide_eq_true h0
        clear h0
        go_wp2_with (first | (go_at_call 14; refine (HC53.out _).mono ?_; rintro e w1 ⟨rfl, hb1⟩; have hq1 : w1.cell? ⟨w.heap.size, 1, none⟩ = some (.slice A l.length c) := row_cell (row_on hb1 HW.out.2) rfl))
        go_ret2
        rw [HF.out]
        exact ⟨⟨_, _, rfl, rfl⟩, on_ HW.out.1 hb1⟩
      · have hd1 : decide ((l.length : Int) < 1) = false := decide_eq_false h9
        have hd2 : decide (8 < (l.length : Int)) = true := decide_eq_true h8
        clear h8 h9
        go_wp2_with (first | (go_at_call 14; refine (HC53.out _).mono ?_; rintro e w1 ⟨rfl, hb1⟩; have hq1 : w1.cell? ⟨w.heap.size, 1, none⟩ = some (.slice A l.length c) := row_cell (row_on hb1 HW.out.2) rfl))
        go_ret2
        rw [HF.out]
        exact ⟨⟨_, _, rfl, rfl⟩, on_ HW.out.1 hb1⟩
end Go.Proofs.YthlgcibckakhbaaDoor.Pl

/- odysseylaw12.same, has, pick, trip: the walks, by hand. -/
namespace Go.Proofs.YthlgcibckakhbaaDoor.Pl
open Go.RowKit Go.IntWalk Go.Proofs.YthlgcibckakhbaaDoorW.PrintWords Go.Proofs.YthlgcibckakhbaaDoorW.PrintLast Go.Proofs.YthlgcibckakhbaaDoorW.PrintMore Go.Proofs.YthlgcibckakhbaaDoor.PlName

def sameI (a b : List Int) : Bool := decide (a = b)
theorem same_len {a b : List Int} (h : a.length ≠ b.length) : sameI a b = false := by
  unfold sameI
  exact decide_eq_false fun e => h (by rw [e])
theorem same_ne {a b : List Int} {i : Nat} (ha : i < a.length) (hb : i < b.length) (h : a[i] ≠ b[i]) : sameI a b = false := by
  unfold sameI
  exact decide_eq_false fun e => h (by subst e; rfl)
theorem same_eq {a b : List Int} (hl : a.length = b.length) (h : ∀ j (ha : j < a.length) (hb : j < b.length), a[j] = b[j]) : sameI a b = true := by
  unfold sameI
  exact decide_eq_true (List.ext_getElem hl h)

set_option linter.unusedSimpArgs false in
set_option linter.unusedVariables false in
set_option maxHeartbeats 4000000 in
set_option maxRecDepth 100000 in
theorem same_calls (A B : Option Addr) (ca cb : Nat) (a b : List Int) (w : World) (ha : Kd.C (Kd.int .i64) w A a.length a) (hb : Kd.C (Kd.int .i64) w B b.length b) (hla : a.length ≤ 1000000000) :
    Calls Tryd.prog 18 #[.slice A a.length ca, .slice B b.length cb] w fun e w' => e = .returned (.bool (sameI a b)) ∧ Below w.heap.size w w' := by
  have HK := Aside0.mk (And.intro ha hb)
  clear ha hb
  go_enter Tryd.func18, Tryd.ntmps18
  by_cases hl : a.length = b.length
  · have hd1 : ((a.length : Int) != (b.length : Int)) = false := bne_eq_false_iff_eq.2 (by omega)
    go_wp2
    go_loopw [5] (fun v5 wr => ∃ k : Nat, k ≤ a.length ∧ v5 = .int .i64 (k : Int) ∧ (∀ j (hj : j < k) (ha : j < a.length) (hb : j < b.length), a[j] = b[j]) ∧ Below w.heap.size w wr) (fun v5 _ => a.length - (intOf v5).toNat)
    case atStart => exact ⟨0, Nat.zero_le _, rfl, fun j hj => absurd hj (Nat.not_lt_zero _), Below.refl _ _⟩
    case round =>
      obtain ⟨k, hk, rfl, hal, hB⟩ := hrel
      have HG := Aside0.mk (And.intro hal hB)
      clear hal hB
      by_cases hlt : k < a.length
      · have hd2 : decide ((k : Int) < (a.length : Int)) = true := decide_eq_true (by omega)
        have hltb : k < b.length := by omega
        obtain ⟨aa, rfl, hx⟩ := int_at HK.out.1 hlt
        obtain ⟨ab, rfl, hy⟩ := int_at HK.out.2 hltb
        replace hx := cell_on HG.out.2 hx
        replace hy := cell_on HG.out.2 hy
        by_cases hxy : a[k] = b[k]
        · have hd3 : (a[k] != b[k]) = false := bne_eq_false_iff_eq.2 hxy
          have HE := Aside0.mk hxy
          have HS : Aside0 (∀ j (hj : j < k + 1) (ha : j < a.length) (hb : j < b.length), a[j] = b[j]) := ⟨fun j hj h1 h2 => by
            rcases Nat.lt_succ_iff_lt_or_eq.1 hj with h | h
            · exact HG.out.1 j h h1 h2
            · subst h
              exact HE.out⟩
          clear hxy HE
          generalize a[k] = x at *
          generalize b[k] = y at *
          go_wp2
          refine start_ (n := 9) (S := fun w' => w'.cell? (aa.add k) = some (.int .i64 x) ∧ w'.cell? (ab.add k) = some (.int .i64 y)) (ds := []) #[false, false, false, false, false, false, false, false, false] (by kernel_rfl) rfl rfl ⟨(by go_keep), (by go_keep)⟩ (fun hHeld => ?_)
          refine pure_ (i := 0) (N := some 17) (v := ?_) (a' := ?_) #[true, false, false, false, false, false, false, false, false] rfl rfl (by kernel_rfl) (fun _ _ _ h => h) (Or.inl ⟨by rfl, ?_⟩) ?_ ?_
          rotate_left
          · intro w'
            go_simp
            with_reducible rfl
          rotate_left
          · simp only [Act.put, List.setIfInBounds_toArray, List.set_cons_zero, List.set_cons_succ, i64_w, i32_w]
            rfl
          refine pure_ (i := 1) (N := some 18) (v := ?_) (a' := ?_) #[true, true, false, false, false, false, false, false, false] rfl rfl (by kernel_rfl) (fun _ _ _ h => h) (Or.inl ⟨by rfl, ?_⟩) ?_ ?_
          rotate_left
          · intro w'
            go_simp
            with_reducible rfl
          rotate_left
          · simp only [Act.put, List.setIfInBounds_toArray, List.set_cons_zero, List.set_cons_succ, i64_w, i32_w]
            rfl
          refine pure_ (i := 2) (N := some 19) (v := ?_) (a' := ?_) #[true, true, true, false, false, false, false, false, false] rfl rfl (by kernel_rfl) (fun _ _ _ h => h) (Or.inl ⟨by rfl, ?_⟩) ?_ ?_
          rotate_left
          · intro w'
            go_simp
            with_reducible rfl
          rotate_left
          · simp only [Act.put, List.setIfInBounds_toArray, List.set_cons_zero, List.set_cons_succ, i64_w, i32_w]
            rfl
          refine pure_ (i := 4) (N := some 21) (v := ?_) (a' := ?_) #[true, true, true, false, true, false, false, false, false] rfl rfl (by kernel_rfl) (fun _ _ _ h => h) (Or.inl ⟨by rfl, ?_⟩) ?_ ?_
          rotate_left
          · intro w'
            go_simp
            with_reducible rfl
          rotate_left
          · simp only [Act.put, List.setIfInBounds_toArray, List.set_cons_zero, List.set_cons_succ, i64_w, i32_w]
            rfl
          refine pure_ (i := 5) (N := some 22) (v := ?_) (a' := ?_) #[true, true, true, false, true, true, false, false, false] rfl rfl (by kernel_rfl) (fun _ _ _ h => h) (Or.inl ⟨by rfl, ?_⟩) ?_ ?_
          rotate_left
          · intro w'
            go_simp
            with_reducible rfl
          rotate_left
          · simp only [Act.put, List.setIfInBounds_toArray, List.set_cons_zero, List.set_cons_succ, i64_w, i32_w]
            rfl
          refine pure_ (i := 6) (N := some 23) (v := ?_) (a' := ?_) #[true, true, true, false, true, true, true, false, false] rfl rfl (by kernel_rfl) (fun _ _ _ h => h) (Or.inl ⟨by rfl, ?_⟩) ?_ ?_
          rotate_left
          · intro w'
            go_simp
            with_reducible rfl
          rotate_left
          · simp only [Act.put, List.setIfInBounds_toArray, List.set_cons_zero, List.set_cons_succ, i64_w, i32_w]
            rfl
          refine take_ (i := 3) (N := some 20) (v := ?_) (a' := ?_) #[true, true, true, true, true, true, true, false, false] rfl rfl (by kernel_rfl) (fun _ _ _ h => h) (Or.inl ⟨by rfl, ?_⟩) hHeld ?_ ?_
          rotate_left
          · rintro w' ⟨s0, s1⟩
            go_simp
            with_reducible rfl
          rotate_left
          · simp only [Act.put, List.setIfInBounds_toArray, List.set_cons_zero, List.set_cons_succ, i64_w, i32_w]
            rfl
          refine take_ (i := 7) (N := some 24) (v := ?_) (a' := ?_) #[true, true, true, true, true, true, true, true, false] rfl rfl (by kernel_rfl) (fun _ _ _ h => h) (Or.inl ⟨by rfl, ?_⟩) hHeld ?_ ?_
          rotate_left
          · rintro w' ⟨s0, s1⟩
            go_simp
            with_reducible rfl
          rotate_left
          · simp only [Act.put, List.setIfInBounds_toArray, List.set_cons_zero, List.set_cons_succ, i64_w, i32_w]
            rfl
          refine pure_ (i := 8) (N := some 25) (v := ?_) (a' := ?_) #[true, true, true, true, true, true, true, true, true] rfl rfl (by kernel_rfl) (fun _ _ _ h => h) (Or.inl ⟨by rfl, ?_⟩) ?_ ?_
          rotate_left
          · intro w'
            go_simp
            with_reducible rfl
          rotate_left
          · simp only [Act.put, List.setIfInBounds_toArray, List.set_cons_zero, List.set_cons_succ, i64_w, i32_w]
            rfl
          refine done_ (by kernel_rfl) ?_
          go_wp2
          go_roundw
          case rel => exact ⟨k + 1, hlt, by go_num, HS.out, below_drew HG.out.2⟩
          case measure => simp [intOf]; omega
        · have hd3 : (a[k] != b[k]) = true := bne_iff_ne.2 hxy
          have HX := Aside0.mk (same_ne hlt hltb hxy)
          clear hxy
          generalize a[k] = x at *
          generalize b[k] = y at *
          go_wp2
          refine start_ (n := 9) (S := fun w' => w'.cell? (aa.add k) = some (.int .i64 x) ∧ w'.cell? (ab.add k) = some (.int .i64 y)) (ds := []) #[false, false, false, false, false, false, false, false, false] (by kernel_rfl) rfl rfl ⟨(by go_keep), (by go_keep)⟩ (fun hHeld => ?_)
          refine pure_ (i := 0) (N := some 17) (v := ?_) (a' := ?_) #[true, false, false, false, false, false, false, false, false] rfl rfl (by kernel_rfl) (fun _ _ _ h => h) (Or.inl ⟨by rfl, ?_⟩) ?_ ?_
          rotate_left
          · intro w'
            go_simp
            with_reducible rfl
          rotate_left
          · simp only [Act.put, List.setIfInBounds_toArray, List.set_cons_zero, List.set_cons_succ, i64_w, i32_w]
            rfl
          refine pure_ (i := 1) (N := some 18) (v := ?_) (a' := ?_) #[true, true, false, false, false, false, false, false, false] rfl rfl (by kernel_rfl) (fun _ _ _ h => h) (Or.inl ⟨by rfl, ?_⟩) ?_ ?_
          rotate_left
          · intro w'
            go_simp
            with_reducible rfl
          rotate_left
          · simp only [Act.put, List.setIfInBounds_toArray, List.set_cons_zero, List.set_cons_succ, i64_w, i32_w]
            rfl
          refine pure_ (i := 2) (N := some 19) (v := ?_) (a' := ?_) #[true, true, true, false, false, false, false, false, false] rfl rfl (by kernel_rfl) (fun _ _ _ h => h) (Or.inl ⟨by rfl, ?_⟩) ?_ ?_
          rotate_left
          · intro w'
            go_simp
            with_reducible rfl
          rotate_left
          · simp only [Act.put, List.setIfInBounds_toArray, List.set_cons_zero, List.set_cons_succ, i64_w, i32_w]
            rfl
          refine pure_ (i := 4) (N := some 21) (v := ?_) (a' := ?_) #[true, true, true, false, true, false, false, false, false] rfl rfl (by kernel_rfl) (fun _ _ _ h => h) (Or.inl ⟨by rfl, ?_⟩) ?_ ?_
          rotate_left
          · intro w'
            go_simp
            with_reducible rfl
          rotate_left
          · simp only [Act.put, List.setIfInBounds_toArray, List.set_cons_zero, List.set_cons_succ, i64_w, i32_w]
            rfl
          refine pure_ (i := 5) (N := some 22) (v := ?_) (a' := ?_) #[true, true, true, false, true, true, false, false, false] rfl rfl (by kernel_rfl) (fun _ _ _ h => h) (Or.inl ⟨by rfl, ?_⟩) ?_ ?_
          rotate_left
          · intro w'
            go_simp
            with_reducible rfl
          rotate_left
          · simp only [Act.put, List.setIfInBounds_toArray, List.set_cons_zero, List.set_cons_succ, i64_w, i32_w]
            rfl
          refine pure_ (i := 6) (N := some 23) (v := ?_) (a' := ?_) #[true, true, true, false, true, true, true, false, false] rfl rfl (by kernel_rfl) (fun _ _ _ h => h) (Or.inl ⟨by rfl, ?_⟩) ?_ ?_
          rotate_left
          · intro w'
            go_simp
            with_reducible rfl
          rotate_left
          · simp only [Act.put, List.setIfInBounds_toArray, List.set_cons_zero, List.set_cons_succ, i64_w, i32_w]
            rfl
          refine take_ (i := 3) (N := some 20) (v := ?_) (a' := ?_) #[true, true, true, true, true, true, true, false, false] rfl rfl (by kernel_rfl) (fun _ _ _ h => h) (Or.inl ⟨by rfl, ?_⟩) hHeld ?_ ?_
          rotate_left
          · rintro w' ⟨s0, s1⟩
            go_simp
            with_reducible rfl
          rotate_left
          · simp only [Act.put, List.setIfInBounds_toArray, List.set_cons_zero, List.set_cons_succ, i64_w, i32_w]
            rfl
          refine take_ (i := 7) (N := some 24) (v := ?_) (a' := ?_) #[true, true, true, true, true, true, true, true, false] rfl rfl (by kernel_rfl) (fun _ _ _ h => h) (Or.inl ⟨by rfl, ?_⟩) hHeld ?_ ?_
          rotate_left
          · rintro w' ⟨s0, s1⟩
            go_simp
            with_reducible rfl
          rotate_left
          · simp only [Act.put, List.setIfInBounds_toArray, List.set_cons_zero, List.set_cons_succ, i64_w, i32_w]
            rfl
          refine pure_ (i := 8) (N := some 25) (v := ?_) (a' := ?_) #[true, true, true, true, true, true, true, true, true] rfl rfl (by kernel_rfl) (fun _ _ _ h => h) (Or.inl ⟨by rfl, ?_⟩) ?_ ?_
          rotate_left
          · intro w'
            go_simp
            with_reducible rfl
          rotate_left
          · simp only [Act.put, List.setIfInBounds_toArray, List.set_cons_zero, List.set_cons_succ, i64_w, i32_w]
            rfl
          refine done_ (by kernel_rfl) ?_
          go_wp2
          go_ret
          rw [HX.out]
          exact ⟨rfl, below_drew HG.out.2⟩
      · have hd2 : decide ((k : Int) < (a.length : Int)) = false := decide_eq_false (by omega)
        have HX := Aside0.mk (same_eq hl fun j h1 h2 => HG.out.1 j (by omega) h1 h2)
        go_wp2
        go_ret
        rw [HX.out]
        exact ⟨rfl, HG.out.2⟩
  · have hd1 : ((a.length : Int) != (b.length : Int)) = true := bne_iff_ne.2 (by omega)
    have HX := Aside0.mk (same_len hl)
    go_wp2
    go_ret
    rw [HX.out]
    exact ⟨rfl, Below.refl _ _⟩

set_option linter.unusedSimpArgs false in
set_option linter.unusedVariables false in
set_option maxHeartbeats 4000000 in
set_option maxRecDepth 100000 in
theorem has_calls (A : Option Addr) (ca : Nat) (a : List Int) (x : Int) (w : World) (ha : Kd.C (Kd.int .i64) w A a.length a) (hla : a.length ≤ 1000000000) :
    Calls Tryd.prog 10 #[.slice A a.length ca, .int .i64 x] w fun e w' => e = .returned (.bool (a.contains x)) ∧ Below w.heap.size w w' := by
  have HK := Aside0.mk ha
  have HF : Aside0 (a.contains x = a.any fun y => y == x) := ⟨by
    rw [Bool.eq_iff_iff, List.contains_iff_mem, List.any_eq_true]
    exact ⟨fun h => ⟨x, h, beq_self_eq_true x⟩, fun ⟨y, h1, h2⟩ => (beq_iff_eq.1 h2) ▸ h1⟩⟩
  clear ha
  generalize a.contains x = rr at *
  go_enter Tryd.func10, Tryd.ntmps10
  go_wp2
  go_loopw [5] (fun v5 wr => ∃ k : Nat, k ≤ a.length ∧ v5 = .int .i64 (k : Int) ∧ (∀ j (hj : j < k) (hl : j < a.length), (a[j] == x) = false) ∧ Below w.heap.size w wr) (fun v5 _ => a.length - (intOf v5).toNat)
  case atStart => exact ⟨0, Nat.zero_le _, rfl, fun j hj => absurd hj (Nat.not_lt_zero _), Below.refl _ _⟩
  case round =>
    obtain ⟨k, hk, rfl, hal, hB⟩ := hrel
    have HG := Aside0.mk (And.intro hal hB)
    clear hal hB
    by_cases hlt : k < a.length
    · have hd2 : decide ((k : Int) < (a.length : Int)) = true := decide_eq_true (by omega)
      obtain ⟨aa, rfl, hx⟩ := int_at HK.out hlt
      replace hx := cell_on HG.out.2 hx
      have HS : Aside0 ((a[k] == x) = false → ∀ j (hj : j < k + 1) (hl : j < a.length), (a[j] == x) = false) := ⟨fun h j hj h1 => by
        rcases Nat.lt_succ_iff_lt_or_eq.1 hj with h2 | h2
        · exact HG.out.1 j h2 h1
        · subst h2
          exact h⟩
      have HX : Aside0 ((a[k] == x) = true → rr = true) := ⟨fun h => by rw [HF.out]; exact any_hit hlt h⟩
      generalize a[k] = y at *
      cases hyx : (y == x)
      · replace HS := Aside0.mk (HS.out hyx)
        go_wp2
        go_roundw
        case rel => exact ⟨k + 1, hlt, by go_num, HS.out, HG.out.2⟩
        case measure => simp [intOf]; omega
      · replace HX := Aside0.mk (HX.out hyx)
        go_wp2
        go_ret
        rw [HX.out]
        exact ⟨rfl, HG.out.2⟩
    · have hd2 : decide ((k : Int) < (a.length : Int)) = false := decide_eq_false (by omega)
      have HX : Aside0 (rr = false) := ⟨by rw [HF.out]; exact any_take HG.out.1 (by omega)⟩
      go_wp2
      go_ret
      rw [HX.out]
      exact ⟨rfl, HG.out.2⟩

/-- A definition that may be. -/
def tripN : ByteArray := ⟨#[116, 114, 105, 112]⟩
def tripL : List Step := [⟨⟨#[97]⟩, 3, 0, [], []⟩, ⟨⟨#[98]⟩, 1, 1, [], []⟩, ⟨⟨#[99]⟩, 1, 2, [], [1]⟩]
theorem cnil {α : Type} (d : Kd α) (w : World) (A : Option Addr) : Kd.C d w A 0 [] := ⟨rfl, by omega, fun h => absurd h (Nat.lt_irrefl _)⟩
theorem stepK {w : World} {s : Step} {A1 A2 : Option Addr} {c1 c2 : Nat} (h1 : s.keys.length ≤ c1) (h2 : Kd.C Kd.string w A1 s.keys.length s.keys) (h3 : s.needs.length ≤ c2) (h4 : Kd.C (Kd.int .i64) w A2 s.needs.length s.needs) : StepK w s (cells s (.slice A1 s.keys.length c1) (.slice A2 s.needs.length c2)) :=
  ⟨A1, c1, A2, c2, rfl, h1, h2, h3, h4⟩
theorem ints_row {W : World} {g : Nat} {arr : Array Value} (h : W.heap[g]? = some (.cells arr 3 (0, 0))) (l : List Int) (hl : arr = (l.map (Value.int .i64)).toArray) (h9 : l.length ≤ 1000000) : Kd.C (Kd.int .i64) W (some ⟨g, 0, none⟩) l.length l := by
  refine ⟨rfl, by omega, fun _ => ⟨_, rfl, fun j p hj => ⟨[.int .i64 p], rfl, rfl, fun i u hu => ?_⟩⟩⟩
  match i, hu with
  | 0, hu =>
    simp at hu
    subst hu
    rw [Addr.add_lit]
    refine row_cell h ?_
    rw [hl, show (Kd.int .i64).sz = 1 from rfl]
    simp [hj]
set_option linter.unusedSimpArgs false in
set_option linter.unusedVariables false in
set_option maxHeartbeats 4000000 in
set_option maxRecDepth 100000 in
theorem trip_calls (w : World) :
    Calls Tryd.prog 17 #[] w fun e w' => (∃ ad, e = .returned (.agg #[.string tripN, .slice (some ad) 3 3]) ∧ StepsAt w' (some ad) tripL) ∧ Below w.heap.size w w' := by
  go_enter Tryd.func17, Tryd.ntmps17
  go_wp2
  have s1 : (w.alloc (.cells #[.string ⟨#[116, 114, 105, 112]⟩, .slice (some ⟨w.heap.size + 1 + 1, 0, none⟩) 3 3] 24)).heap.size = w.heap.size + 1 := by
    show (w.heap.push _).size = _
    simp
  have s2 : ((w.alloc (.cells #[.string ⟨#[116, 114, 105, 112]⟩, .slice (some ⟨w.heap.size + 1 + 1, 0, none⟩) 3 3] 24)).alloc (.cells #[.int .i64 1] 3)).heap.size = w.heap.size + 1 + 1 := by
    show ((w.alloc (.cells #[.string ⟨#[116, 114, 105, 112]⟩, .slice (some ⟨w.heap.size + 1 + 1, 0, none⟩) 3 3] 24)).heap.push _).size = _
    simp [s1]
  have b1 := below_one w (.cells #[.string ⟨#[116, 114, 105, 112]⟩, .slice (some ⟨w.heap.size + 1 + 1, 0, none⟩) 3 3] 24)
  have r1 := alloc1 w (.cells #[.string ⟨#[116, 114, 105, 112]⟩, .slice (some ⟨w.heap.size + 1 + 1, 0, none⟩) 3 3] 24)
  generalize World.alloc w _ = w1 at *
  have b2 := below_one w1 (.cells #[.int .i64 1] 3)
  have r2 := alloc1 w1 (.cells #[.int .i64 1] 3)
  replace r1 := row_on b2 r1
  rw [s1] at r2
  generalize World.alloc w1 _ = w2 at *
  have b3 := below_one w2 (.cells #[.string ⟨#[97]⟩, .int .i64 3, .int .i64 0, .slice none 0 0, .slice none 0 0, .string ⟨#[98]⟩, .int .i64 1, .int .i64 1, .slice none 0 0, .slice none 0 0, .string ⟨#[99]⟩, .int .i64 1, .int .i64 2, .slice none 0 0, .slice (some ⟨w.heap.size + 1, 0, none⟩) 1 1] 35)
  have r3 := alloc1 w2 (.cells #[.string ⟨#[97]⟩, .int .i64 3, .int .i64 0, .slice none 0 0, .slice none 0 0, .string ⟨#[98]⟩, .int .i64 1, .int .i64 1, .slice none 0 0, .slice none 0 0, .string ⟨#[99]⟩, .int .i64 1, .int .i64 2, .slice none 0 0, .slice (some ⟨w.heap.size + 1, 0, none⟩) 1 1] 35)
  replace r1 := row_on b3 r1
  replace r2 := row_on b3 r2
  rw [s2] at r3
  generalize World.alloc w2 _ = w3 at *
  refine bodyPost_ret (results_single rfl (.cell w.heap.size 24 _ (0, 0) _ rfl r1 Tryd.underlying24 rfl (by kernel_rfl) .nil)) rfl ?_
  refine ⟨⟨⟨w.heap.size + 1 + 1, 0, none⟩, rfl, ?_⟩, on_ b1 (on_ b2 b3)⟩
  have hone := ints_row r2 [1] rfl (by decide)
  intro i x hx
  match i, hx with
  | 0, hx =>
    injection hx with hx
    subst hx
    refine ⟨_, rfl, _, rfl, stepK (Nat.le_refl _) (cnil _ _ none) (Nat.le_refl _) (cnil _ _ none), fun j u hj => ?_⟩
    rw [Addr.add_lit]
    refine row_cell r3 ?_
    match j, hj with
    | 0, hj | 1, hj | 2, hj | 3, hj | 4, hj => exact hj
  | 1, hx =>
    injection hx with hx
    subst hx
    refine ⟨_, rfl, _, rfl, stepK (Nat.le_refl _) (cnil _ _ none) (Nat.le_refl _) (cnil _ _ none), fun j u hj => ?_⟩
    rw [Addr.add_lit]
    refine row_cell r3 ?_
    match j, hj with
    | 0, hj | 1, hj | 2, hj | 3, hj | 4, hj => exact hj
  | 2, hx =>
    injection hx with hx
    subst hx
    refine ⟨_, rfl, _, rfl, stepK (Nat.le_refl _) (cnil _ _ none) (Nat.le_refl _) hone, fun j u hj => ?_⟩
    rw [Addr.add_lit]
    refine row_cell r3 ?_
    match j, hj with
    | 0, hj | 1, hj | 2, hj | 3, hj | 4, hj => exact hj
end Go.Proofs.YthlgcibckakhbaaDoor.Pl

/- odysseylaw12.live: the walk, by hand. -/
namespace Go.Proofs.YthlgcibckakhbaaDoor.Pl
open Go.RowKit Go.IntWalk Go.Proofs.YthlgcibckakhbaaDoorW.PrintWords Go.Proofs.YthlgcibckakhbaaDoor.PlName

theorem trip_reach {k x : Nat} (h : Reach tripL k x) : k = 2 ∧ x = 1 := by
  have hn : ∀ k : Nat, ∀ y : Nat, (y : Int) ∈ (stepAt tripL k).needs → k = 2 ∧ y = 1 := fun k y hy => by
    match k, hy with
    | 0, hy => exact absurd hy List.not_mem_nil
    | 1, hy => exact absurd hy List.not_mem_nil
    | 2, hy =>
      have : (y : Int) = 1 := List.mem_singleton.1 hy
      exact ⟨rfl, by omega⟩
    | k + 3, hy => exact absurd hy List.not_mem_nil
  induction h with
  | one h => exact hn _ _ h
  | more h _ ih =>
    have h1 := hn _ _ h
    have h2 := ih.1
    omega
theorem trip_alone0 : aloneOk tripL 0 (stepAt tripL 0) = true := by kernel_rfl
theorem trip_alone1 : aloneOk tripL 1 (stepAt tripL 1) = true := by kernel_rfl
theorem trip_alone2 : aloneOk tripL 2 (stepAt tripL 2) = true := by kernel_rfl
theorem trip_alone : ∀ i, i < 3 → aloneOk tripL i (stepAt tripL i) = true := by
  intro i hi
  match i, hi with
  | 0, _ => exact trip_alone0
  | 1, _ => exact trip_alone1
  | 2, _ => exact trip_alone2
theorem tripOk : defOk tripN tripL = true := by
  unfold defOk
  rw [show Nm.isName tripN = true by kernel_rfl, all_range (n := tripL.length) (p := fun i => aloneOk tripL i (stepAt tripL i)) trip_alone, allOf_true (p := fun i => decide (1 < pivots tripL (i + 1))) (n := tripL.length), allOf_true (p := ordersBad tripL) (n := tripL.length), allOf_true (p := ringAt tripL) (n := tripL.length), allOf_true (p := lacksHeld tripL (heldF tripL)) (n := tripL.length)]
  · rfl
  · intro j hj
    match j, hj with
    | 0, _ => rfl
    | 1, _ => rfl
    | 2, _ => rfl
  · intro j hj
    refine ringAt_eq (b := false) ⟨fun h => (by cases h), fun h => ?_⟩
    have := trip_reach h
    omega
  · intro j hj
    match j, hj with
    | 0, _ => rfl
    | 1, _ => rfl
    | 2, _ => rfl
  · intro j hj
    match j, hj with
    | 0, _ => rfl
    | 1, _ => rfl
    | 2, _ => rfl
theorem trip_ahead : aheadL tripN tripL 0 = [1, 2] := by
  unfold aheadL
  rw [tripOk]
  rfl
theorem trip_behind : behindL tripN tripL 1 = [0, 2] := by
  unfold behindL
  rw [tripOk]
  rfl
theorem trip_order : ordL (wars (direct tripL) tripL.length) tripL.length tripL.length = [1, 2, 0] := by rfl
theorem trip_ready : readyL tripN tripL [0, 2, 0] = [2] := by
  unfold readyL
  rw [tripOk]
  rfl
theorem trip_undo : undoL tripN tripL [0, 2, 1] = [2] := by
  unfold undoL
  rw [tripOk]
  rfl
theorem trip_bounds : ∀ s ∈ tripL, StepB s := by
  intro s hs
  have : s = stepAt tripL 0 ∨ s = stepAt tripL 1 ∨ s = stepAt tripL 2 := by
    simpa [tripL, stepAt] using hs
  rcases this with rfl | rfl | rfl <;> (unfold StepB; decide)

theorem lit_row (W : World) (l : List Int) (arr : Array Value) (hl : arr = (l.map (Value.int .i64)).toArray) (h9 : l.length ≤ 1000000) : Kd.C (Kd.int .i64) (W.alloc (.cells arr 3)) (some ⟨W.heap.size, 0, none⟩) l.length l := ints_row (alloc1 W _) l hl h9
/-- A list that is owned, and one that is written out. -/
theorem own_same {w0 w1 W : World} {v : Value} {L : List Nat} (h : Own w0 w1 v L) (hb : Below w1.heap.size w1 W) (b : List Int) (B : Option Addr) (cb : Nat) (hB : Kd.C (Kd.int .i64) W B b.length b) (hl : L.length ≤ 1000) (he : intsOf L = b) :
    Calls Tryd.prog 18 #[v, .slice B b.length cb] W fun e w' => e = .returned (.bool true) ∧ Below W.heap.size W w' := by
  obtain ⟨A, c, rfl, _, hr⟩ := own_reads h
  have hr := Kd.C_below hr hb
  have := same_calls A B c cb (intsOf L) b W hr hB (by rw [intsOf_len]; omega)
  rw [intsOf_len] at this
  rw [show sameI (intsOf L) b = true from decide_eq_true he] at this
  exact this

/-- The worlds of live. -/
structure Lv (w W : World) (g : Nat) (ad : Addr) : Prop where
  below : Below w.heap.size w W
  row : W.heap[g]? = some (.cells #[.string tripN, .slice (some ad) 3 3] 24 (0, 0))
  steps : StepsAt W (some ad) tripL
theorem Lv.on {w W W2 : World} {g : Nat} {ad : Addr} (h : Lv w W g ad) (hb : Below W.heap.size W W2) : Lv w W2 g ad := ⟨on_ h.below hb, row_on hb h.row, h.steps.below hb⟩
theorem Lv.cells {w W : World} {g : Nat} {ad : Addr} (h : Lv w W g ad) : W.cell? ⟨g, 0, none⟩ = some (.string tripN) ∧ W.cell? ⟨g, 1, none⟩ = some (.slice (some ad) 3 3) := ⟨row_cell h.row rfl, row_cell h.row rfl⟩

set_option linter.unusedSimpArgs false in
set_option linter.unusedVariables false in
set_option maxHeartbeats 16000000 in
set_option maxRecDepth 100000 in
theorem live_calls (w : World) (hT : TabsAt w) :
    Calls Tryd.prog 7 #[] w fun e w' => e = .returned (.bool true) ∧ Below w.heap.size w w' := by
  replace hT := Aside0.mk hT
  go_enter Tryd.func7, Tryd.ntmps7
  go_wp2_with (first | (go_at_call 17; refine (trip_calls w).mono ?_; rintro e w1 ⟨⟨ad, rfl, hS⟩, hb1⟩; have H1 := Aside0.mk (And.intro hS (And.intro hb1 (And.intro (below_one w1 (.cells #[.string tripN, .slice (some ad) 3 3] 24)) (alloc1 w1 (.cells #[.string tripN, .slice (some ad) 3 3] 24))))); clear hS hb1))
  generalize hW1 : World.alloc w1 _ = w2 at *
  have L0 := Aside0.mk (Lv.mk (on_ H1.out.2.1 H1.out.2.2.1) H1.out.2.2.2 (H1.out.1.below H1.out.2.2.1) : Lv w w2 w1.heap.size ad)
  clear H1 hW1
  refine (ahead_calls tripN tripL (some ad) 3 0 w2 (by decide) L0.out.steps trip_bounds (by decide) (by decide) (tabs_on hT.out L0.out.below)).mono ?_
  rintro e w3 ⟨⟨v3, rfl, ho3⟩, hb3⟩
  rw [trip_ahead] at ho3
  have O3 := Aside0.mk (And.intro ho3 (L0.out.on hb3))
  clear ho3 hb3
  go_wp2_with fail
  refine (own_same O3.out.1 (below_one w3 (.cells #[.int .i64 1, .int .i64 2] 3)) [1, 2] _ 2 (lit_row w3 [1, 2] _ rfl (by decide)) (by decide) rfl).mono ?_
  rintro e w4 ⟨rfl, hb4⟩
  have L4 := Aside0.mk (O3.out.2.on (on_ (below_one w3 (.cells #[.int .i64 1, .int .i64 2] 3)) hb4))
  obtain ⟨q4, r4⟩ := L4.out.cells
  clear hb4
  go_wp2_with fail
  refine (behind_calls tripN tripL (some ad) 3 1 w4 (by decide) L4.out.steps trip_bounds (by decide) (by decide) (tabs_on hT.out L4.out.below)).mono ?_
  rintro e w5 ⟨⟨v5, rfl, ho5⟩, hb5⟩
  rw [trip_behind] at ho5
  have O5 := Aside0.mk (And.intro ho5 (L4.out.on hb5))
  clear ho5 hb5
  go_wp2_with fail
  refine (own_same O5.out.1 (below_one w5 (.cells #[.int .i64 0, .int .i64 2] 3)) [0, 2] _ 2 (lit_row w5 [0, 2] _ rfl (by decide)) (by decide) rfl).mono ?_
  rintro e w6 ⟨rfl, hb6⟩
  have L6 := Aside0.mk (O5.out.2.on (on_ (below_one w5 (.cells #[.int .i64 0, .int .i64 2] 3)) hb6))
  obtain ⟨q6, r6⟩ := L6.out.cells
  clear hb6
  go_wp2_with fail
  refine (told_calls tripN tripL (some ad) 3 w6 (by decide) L6.out.steps trip_bounds (by decide) (by decide) (tabs_on hT.out L6.out.below) tripOk (defOk_acyc tripOk)).mono ?_
  rintro e w7 ⟨⟨v7, rfl, ho7⟩, hb7⟩
  rw [trip_order] at ho7
  have O7 := Aside0.mk (And.intro ho7 (L6.out.on hb7))
  clear ho7 hb7
  go_wp2_with fail
  refine (own_same O7.out.1 (below_one w7 (.cells #[.int .i64 1, .int .i64 2, .int .i64 0] 3)) [1, 2, 0] _ 3 (lit_row w7 [1, 2, 0] _ rfl (by decide)) (by decide) rfl).mono ?_
  rintro e w8 ⟨rfl, hb8⟩
  have L8 := Aside0.mk (O7.out.2.on (on_ (below_one w7 (.cells #[.int .i64 1, .int .i64 2, .int .i64 0] 3)) hb8))
  obtain ⟨q8, r8⟩ := L8.out.cells
  clear hb8
  go_wp2_with fail
  have S9 := Aside0.mk (And.intro (L8.out.on (below_one w8 (.cells #[.int .i64 0, .int .i64 2, .int .i64 0] 3))) (lit_row w8 [0, 2, 0] _ rfl (by decide)))
  refine (ready_at tripN tripL (some ad) 3 (some ⟨w8.heap.size, 0, none⟩) 3 [0, 2, 0] (World.alloc w8 (.cells #[.int .i64 0, .int .i64 2, .int .i64 0] 3)) (by decide) S9.out.1.steps trip_bounds (by decide) (by decide) (tabs_on hT.out S9.out.1.below) S9.out.2 (by decide)).mono ?_
  rintro e w9 ⟨⟨v9, rfl, ho9⟩, hb9⟩
  rw [trip_ready] at ho9
  have O9 := Aside0.mk (And.intro ho9 (S9.out.1.on hb9))
  clear ho9 hb9
  go_wp2_with fail
  refine (own_same O9.out.1 (below_one w9 (.cells #[.int .i64 2] 3)) [2] _ 1 (lit_row w9 [2] _ rfl (by decide)) (by decide) rfl).mono ?_
  rintro e w10 ⟨rfl, hb10⟩
  have L10 := Aside0.mk (O9.out.2.on (on_ (below_one w9 (.cells #[.int .i64 2] 3)) hb10))
  obtain ⟨q10, r10⟩ := L10.out.cells
  clear hb10
  go_wp2_with fail
  have S11 := Aside0.mk (And.intro (L10.out.on (below_one w10 (.cells #[.int .i64 0, .int .i64 2, .int .i64 1] 3))) (lit_row w10 [0, 2, 1] _ rfl (by decide)))
  refine (undo_at tripN tripL (some ad) 3 (some ⟨w10.heap.size, 0, none⟩) 3 [0, 2, 1] (World.alloc w10 (.cells #[.int .i64 0, .int .i64 2, .int .i64 1] 3)) (by decide) S11.out.1.steps trip_bounds (by decide) (by decide) (tabs_on hT.out S11.out.1.below) S11.out.2 (by decide)).mono ?_
  rintro e w11 ⟨⟨v11, rfl, ho11⟩, hb11⟩
  rw [trip_undo] at ho11
  have O11 := Aside0.mk (And.intro ho11 (S11.out.1.on hb11))
  clear ho11 hb11
  go_wp2_with fail
  refine (own_same O11.out.1 (below_one w11 (.cells #[.int .i64 2] 3)) [2] _ 1 (lit_row w11 [2] _ rfl (by decide)) (by decide) rfl).mono ?_
  rintro e w12 ⟨rfl, hb12⟩
  have L12 := Aside0.mk (O11.out.2.on (on_ (below_one w11 (.cells #[.int .i64 2] 3)) hb12))
  obtain ⟨q12, r12⟩ := L12.out.cells
  clear hb12
  go_wp2_with fail
  go_ret
  exact ⟨rfl, L12.out.below⟩
end Go.Proofs.YthlgcibckakhbaaDoor.Pl

/- odysseylaw12.PlanDone: the walk, by hand. -/
namespace Go.Proofs.YthlgcibckakhbaaDoor.Pl
open Go.RowKit Go.IntWalk Go.Proofs.YthlgcibckakhbaaDoorW.PrintWords Go.Proofs.YthlgcibckakhbaaDoor.PlName

def intsA (st : List Int) : Array Value := (st.map (Value.int .i64)).toArray
theorem intsA_at {st : List Int} {i : Nat} (h : i < st.length) : (intsA st)[i]? = some (.int .i64 (stOf st i)) := by
  unfold intsA stOf
  simp [h]
theorem intsA_set (st : List Int) (i : Nat) (v : Int) : (intsA st).setIfInBounds i (.int .i64 v) = intsA (st.set i v) := by
  unfold intsA
  simp [List.map_set]
theorem stOf_set {st : List Int} {i : Nat} (v : Int) (h : i < st.length) (k : Nat) : stOf (st.set i v) k = if k = i then v else stOf st k := by
  unfold stOf
  rw [List.getD_eq_getElem?_getD, List.getD_eq_getElem?_getD, List.getElem?_set]
  by_cases e : i = k
  · subst e
    simp [h]
  · have : ¬ k = i := fun h => e h.symm
    simp [e, this]
/-- The worlds in which states are kept. -/
structure Ds (w W : World) (nm : ByteArray) (l : List Step) (ad : Addr) (c bs : Nat) (st : List Int) : Prop where
  below : Below w.heap.size w W
  box : W.heap[w.heap.size]? = some (.cells #[.string nm, .slice (some ad) l.length c] 24 (0, 0))
  row : W.heap[bs]? = some (.cells (intsA st) 3 (0, 0))
  lt : w.heap.size < bs
  len : st.length = l.length
section
variable {w W W2 : World} {nm : ByteArray} {l : List Step} {ad : Addr} {c bs : Nat} {st : List Int}
theorem Ds.on (h : Ds w W nm l ad c bs st) (hb : Below W.heap.size W W2) : Ds w W2 nm l ad c bs st := ⟨on_ h.below hb, row_on hb h.box, row_on hb h.row, h.lt, h.len⟩
theorem Ds.cells (h : Ds w W nm l ad c bs st) : W.cell? ⟨w.heap.size, 0, none⟩ = some (.string nm) ∧ W.cell? ⟨w.heap.size, 1, none⟩ = some (.slice (some ad) l.length c) := ⟨row_cell h.box rfl, row_cell h.box rfl⟩
theorem Ds.at_ (h : Ds w W nm l ad c bs st) {x : Nat} (hx : x < l.length) : W.cell? ⟨bs, x, none⟩ = some (.int .i64 (stOf st x)) := row_cell h.row (intsA_at (by rw [h.len]; exact hx))
theorem Ds.free (h : Ds w W nm l ad c bs st) (x : Nat) : W.frozen? ⟨bs, x, none⟩ = false := free_of_row h.row
theorem Ds.set (h : Ds w W nm l ad c bs st) (x : Nat) (v : Int) : Ds w (W.setCell ⟨bs, x, none⟩ (.int .i64 v)) nm l ad c bs (st.set x v) :=
  ⟨h.below.setCell (p := ⟨bs, x, none⟩) (Nat.le_of_lt h.lt) _, row_setCell_ne h.box _ _ (Nat.ne_of_lt h.lt), by rw [row_setCell h.row, intsA_set], h.lt, by rw [List.length_set]; exact h.len⟩
end
theorem own_empty {w0 W : World} {v : Value} (h : Own w0 W v []) : ∃ A c, v = .slice A 0 c := by
  obtain ⟨A, c, e, _⟩ := own_reads h
  exact ⟨A, c, e⟩

/-! ### whichever is done -/
structure Dn (st : List Int) (n k : Nat) : Prop where
  len : st.length = n
  two : ∀ i, i < n → stOf st i = 0 ∨ stOf st i = 2
  cnt_ : cnt (doneF st) n = k
theorem sts_ok {st : List Int} {n : Nat} (hl : st.length = n) (h : ∀ i, i < n → 0 ≤ stOf st i ∧ stOf st i ≤ 5) : stsOk st n = true := by
  unfold stsOk
  rw [decide_eq_true hl, Bool.true_and, Bool.not_eq_true', List.any_eq_false]
  intro x hx
  obtain ⟨j, hj, e⟩ := List.getElem_of_mem hx
  have := h j (by omega)
  have e2 : stOf st j = x := by
    unfold stOf
    rw [List.getD_eq_getElem?_getD, List.getElem?_eq_getElem hj]
    exact e
  rw [e2] at this
  unfold oddS
  simp
  omega
theorem Dn.ok {st : List Int} {n k : Nat} (h : Dn st n k) : stsOk st n = true := sts_ok h.len fun i hi => by rcases h.two i hi with e | e <;> omega
theorem sel_has {p : Nat → Bool} {n i : Nat} (hi : i < n) : (sel p n).contains i = p i := by
  cases h : p i
  · cases hc : (sel p n).contains i
    · rfl
    · have := (mem_sel.1 (List.contains_iff_mem.1 hc)).2
      rw [h] at this
      cases this
  · exact List.contains_iff_mem.2 (mem_sel.2 ⟨hi, h⟩)
theorem Dn.step {st : List Int} {n k x : Nat} (h : Dn st n k) (hx : x < n) (h0 : stOf st x = 0) : Dn (st.set x 2) n (k + 1) := by
  have hl : x < st.length := by rw [h.len]; exact hx
  refine ⟨by rw [List.length_set]; exact h.len, fun i hi => ?_, ?_⟩
  · rw [stOf_set 2 hl]
    split
    · exact .inr rfl
    · exact h.two i hi
  · have hf : doneF st x = false := by unfold doneF; rw [h0]; rfl
    have e : ∀ i, i < n → doneF (st.set x 2) i = (i == x || doneF st i) := fun i _ => by
      unfold doneF
      rw [stOf_set 2 hl]
      by_cases e : i = x
      · subst e
        simp
      · simp [e]
    rw [cnt_congr e, cnt_add hf, h.cnt_, if_pos hx]
theorem rep_of (n i : Nat) : stOf (List.replicate n 0) i = 0 := by
  unfold stOf
  rw [List.getD_eq_getElem?_getD, List.getElem?_replicate]
  split <;> rfl
theorem Dn.start (n : Nat) : Dn (List.replicate n 0) n 0 := by
  refine ⟨List.length_replicate, fun i _ => .inl (rep_of n i), ?_⟩
  have : ∀ m, cnt (doneF (List.replicate n 0)) m = 0 := by
    intro m
    induction m with
    | zero => rfl
    | succ m ih =>
      rw [cnt, ih]
      have : doneF (List.replicate n 0) m = false := by
        unfold doneF
        rw [rep_of]
        rfl
      rw [this]
      rfl
  exact this n
end Go.Proofs.YthlgcibckakhbaaDoor.Pl

/- odysseylaw12.PlanRings: what is kept. -/
namespace Go.Proofs.YthlgcibckakhbaaDoor.Pl
open Go.RowKit Go.IntWalk Go.Proofs.YthlgcibckakhbaaDoorW.PrintWords Go.Proofs.YthlgcibckakhbaaDoor.PlName

theorem wpList_append_where {P : Program} (w : World) {ops : Array Oper} {rest : List Oper} {o : Oper} {a : Act} {Q : Exit → Act → World → Prop}
    (hg : o.guard = none) (s x : Operand) (t : TypeId) (hop : o.op = Op.call { callee := Callee.builtin Builtin.append, args := #[s, x], argTypes := #[t, t] })
    (base : Nat) (e : TypeId) (i : TypeInfo) (z : Value) (bytes : Nat) (ht : P.underlying t = some (.slice e)) (hi : P.info? e = some i) (hz : i.zero = some z)
    (hsize : i.size = 1) (hby : i.bytes = bytes) (hzs : z.cells.size = 1) (v : Value) (k : Nat) (xs : List Value) (hs : a.eval s = v) (hown : w.ownsRow base e 1 v k xs)
    (ad : Addr) (c : Nat) (u : Value) (hx : a.eval x = .slice (some ad) 1 c) (hu : ∀ j x, [u][j]? = some x → w.cell? (ad.add j) = some x) (h1 : ∀ x ∈ [u], x.oneCell' = true)
    (h63 : k + 1 ≤ maxLen) (hbytes : (k + 1) * bytes ≤ 140737488355328) (hbase : base ≤ w.heap.size)
    (hK : ∀ v' w', w'.ownsRow base e 1 v' (k + 1) (xs ++ [u]) → w.grownBy w' v.ownBlock → (∀ k, v'.ownBlock = some k → v.ownBlock = some k ∨ w.heap.size ≤ k) → wpList P ops Q rest (a.put o.dst v') w') :
    wpList P ops Q (o :: rest) a w := by
  refine wpList_plain hg fun K hK' => ?_
  obtain ⟨v', w', hrun, r1, r2, r3⟩ := append_where (P := P) w base t o.type e i z bytes ht hi hz hsize hby hzs v k xs hown ad c u hu h1 h63 hbytes hbase
  unfold Oper.wp
  simp [execOp, hop, resolve, invoke, builtin, hs, hx, hrun, Result.andThen]
  exact hK' _ _ (hK v' w' r1 r2 r3)
theorem ints_info : (Tryd.prog.info? 29).map (fun i => (i.zero, i.size, i.bytes)) = some (some (.slice none 0 0), 1, 24) := by kernel_rfl

/-- A list of lists of numbers, all of one's own. -/
structure Lg (w W : World) (v : Value) (vs : Nat → Value) (F : Nat → List Nat) (k : Nat) : Prop where
  own : W.ownsRow w.heap.size 29 1 v k ((List.range k).map vs)
  el : ∀ i, i < k → Own w W (vs i) (F i)
section
variable {w W W2 : World} {v v2 u : Value} {vs ws : Nat → Value} {F G : Nat → List Nat} {k : Nat}
theorem Lg.start (w W : World) (vs : Nat → Value) (F : Nat → List Nat) : Lg w W (.slice none 0 0) vs F 0 := ⟨World.ownsRow_nil _ _ _ _, fun i hi => absurd hi (Nat.not_lt_zero _)⟩
theorem Lg.on (h : Lg w W v vs F k) (hb : Below W.heap.size W W2) : Lg w W2 v vs F k := ⟨ownsRow_on h.own hb, fun i hi => ownsRow_on (h.el i hi) hb⟩
theorem own_type {base e n : Nat} {xs : List Value} (h : W.ownsRow base e 1 v n xs) {q : Nat} (hq : v.ownBlock = some q) : ∃ cur, W.heap[q]? = some (.cells cur e (0, 0)) := by
  rcases h.2 with ⟨rfl, _⟩ | ⟨g, cap, cur, rfl, _, h2, _⟩
  · cases hq
  · injection hq with hq
    have hq : g = q := hq
    subst hq
    exact ⟨cur, h2⟩
theorem own_differ {base base' n m : Nat} {xs ys : List Value} (h : W.ownsRow base 29 1 v n xs) (h2 : W.ownsRow base' 3 1 u m ys) : ∀ q, u.ownBlock = some q → v.ownBlock ≠ some q := fun q hq e => by
  obtain ⟨c1, r1⟩ := own_type h e
  obtain ⟨c2, r2⟩ := own_type h2 hq
  have h3 := r1.symm.trans r2
  simp at h3
/-- One list more. -/
theorem Lg.push {tmp : Obj} (h : Lg w W v vs F k) (hu : Own w W u (F k)) (hown : W2.ownsRow w.heap.size 29 1 v2 (k + 1) ((List.range k).map vs ++ [u])) (hgr : (W.alloc tmp).grownBy W2 v.ownBlock) :
    Lg w W2 v2 (fun i => if i = k then u else vs i) F (k + 1) ∧ Chg (fun q => v.ownBlock = some q) W W2 := by
  have hc : Chg (fun q => v.ownBlock = some q) W W2 := (Chg.of_below (below_one W tmp)).trans (Chg.of_own hgr)
  have keep : ∀ {y : Value} {L : List Nat}, Own w W y L → Own w W2 y L := fun {y L} hy => ownsRow_chg hy hc fun q hq => own_differ h.own hy q hq
  refine ⟨⟨?_, fun i hi => ?_⟩, hc⟩
  · have et : (List.range (k + 1)).map (fun i => if i = k then u else vs i) = (List.range k).map vs ++ [u] := by
      rw [List.range_succ, List.map_append]
      congr 1
      · apply List.map_congr_left
        intro i hi
        have := List.mem_range.1 hi
        rw [if_neg (by omega)]
      · simp
    rw [et]
    exact hown
  · by_cases e : i = k
    · subst e
      rw [if_pos rfl]
      exact keep hu
    · rw [if_neg e]
      exact keep (h.el i (by omega))
/-- Another list of lists has grown. -/
theorem Lg.aside (h : Lg w W v vs F k) {X : Nat → Prop} (hc : Chg X W W2) (hv : ∀ q, v.ownBlock = some q → ¬ X q) (he : ∀ q, X q → ∃ cur, W.heap[q]? = some (.cells cur 29 (0, 0))) : Lg w W2 v vs F k :=
  ⟨ownsRow_chg h.own hc hv, fun i hi => ownsRow_chg (h.el i hi) hc fun q hq hx => by
    obtain ⟨c1, r1⟩ := he q hx
    obtain ⟨c2, r2⟩ := own_type (h.el i hi) hq
    have h3 := r1.symm.trans r2
    simp at h3⟩
theorem Lg.slot {g cap : Nat} (h : Lg w W (.slice (some ⟨g, 0, none⟩) k cap) vs F k) {i : Nat} (hi : i < k) : W.cell? ⟨g, i, none⟩ = some (vs i) := by
  have := h.own.cells (g := g) rfl i (vs i) (by simp [hi])
  rw [Addr.add_lit, Nat.zero_add] at this
  exact this
theorem Lg.head (h : Lg w W v vs F k) (hk : 0 < k) : ∃ g cap, v = .slice (some ⟨g, 0, none⟩) k cap := by
  rcases h.own.2 with ⟨_, h1⟩ | ⟨g, cap, cur, e, _⟩
  · omega
  · exact ⟨g, cap, e⟩
end
/-- A list that is owned tells what it has. -/
theorem own_has {w W : World} {v : Value} {L : List Nat} (h : Own w W v L) (hl : L.length ≤ 1000) (x : Nat) (W2 : World) (hb : Below W.heap.size W W2) :
    Calls Tryd.prog 10 #[v, .int .i64 (x : Int)] W2 fun e w' => e = .returned (.bool (L.contains x)) ∧ Below W2.heap.size W2 w' := by
  obtain ⟨A, c, rfl, _, hr⟩ := own_reads h
  have := has_calls A c (intsOf L) (x : Int) W2 (Kd.C_below hr hb) (by rw [intsOf_len]; omega)
  rw [intsOf_len, intsOf_has] at this
  exact this
noncomputable def upF (l : List Step) (x : Nat) : List Nat := sel (fun k => wars (direct l) l.length x k) l.length
noncomputable def dnF (l : List Step) (x : Nat) : List Nat := sel (fun k => wars (direct l) l.length k x) l.length
theorem upF_has {l : List Step} {x k : Nat} (hk : k < l.length) : (upF l x).contains k = wars (direct l) l.length x k := sel_has hk
theorem dnF_has {l : List Step} {x k : Nat} (hk : k < l.length) : (dnF l x).contains k = wars (direct l) l.length k x := sel_has hk
theorem upF_len {l : List Step} (h8 : l.length ≤ 8) (x : Nat) : (upF l x).length ≤ 1000 := by
  have := sel_len (fun k => wars (direct l) l.length x k) l.length
  unfold upF
  omega
theorem dnF_len {l : List Step} (h8 : l.length ≤ 8) (x : Nat) : (dnF l x).length ≤ 1000 := by
  have := sel_len (fun k => wars (direct l) l.length k x) l.length
  unfold dnF
  omega
/-- What PlanRings keeps: the definition's box and two lists of lists. -/
structure Rx (w W : World) (nm : ByteArray) (l : List Step) (ad : Addr) (c : Nat) (v : Value) (vs : Nat → Value) (F : Nat → List Nat) (i : Nat) (u : Value) (ws : Nat → Value) (G : Nat → List Nat) (k : Nat) : Prop where
  below : Below w.heap.size w W
  box : W.heap[w.heap.size]? = some (.cells #[.string nm, .slice (some ad) l.length c] 24 (0, 0))
  one : Lg w W v vs F i
  two : Lg w W u ws G k
  apart : ∀ q, v.ownBlock = some q → u.ownBlock ≠ some q
section
variable {w W W2 : World} {nm : ByteArray} {l : List Step} {ad : Addr} {c : Nat} {v u : Value} {vs ws : Nat → Value} {F G : Nat → List Nat} {i k : Nat}
theorem Rx.on (h : Rx w W nm l ad c v vs F i u ws G k) (hb : Below W.heap.size W W2) : Rx w W2 nm l ad c v vs F i u ws G k := ⟨on_ h.below hb, row_on hb h.box, h.one.on hb, h.two.on hb, h.apart⟩
theorem Rx.swap (h : Rx w W nm l ad c v vs F i u ws G k) : Rx w W nm l ad c u ws G k v vs F i := ⟨h.below, h.box, h.two, h.one, fun q hq e => h.apart q e hq⟩
theorem Rx.cells (h : Rx w W nm l ad c v vs F i u ws G k) : W.cell? ⟨w.heap.size, 0, none⟩ = some (.string nm) ∧ W.cell? ⟨w.heap.size, 1, none⟩ = some (.slice (some ad) l.length c) := ⟨row_cell h.box rfl, row_cell h.box rfl⟩
theorem Rx.push (h : Rx w W nm l ad c v vs F i u ws G k) {tmp : Obj} {x v2 : Value} (hx : Own w W x (F i)) (hown : W2.ownsRow w.heap.size 29 1 v2 (i + 1) ((List.range i).map vs ++ [x])) (hgr : (W.alloc tmp).grownBy W2 v.ownBlock) (hwh : ∀ q, v2.ownBlock = some q → v.ownBlock = some q ∨ (W.alloc tmp).heap.size ≤ q) :
    Rx w W2 nm l ad c v2 (fun j => if j = i then x else vs j) F (i + 1) u ws G k := by
  obtain ⟨h1, hc⟩ := h.one.push hx hown hgr
  have hlt : ∀ q, v.ownBlock = some q → w.heap.size ≤ q ∧ q ≠ w.heap.size := fun q hq => by
    constructor
    · rcases h.one.own.2 with ⟨e, _⟩ | ⟨g, cap, cur, e, h2, _⟩
      · rw [e] at hq
        cases hq
      · rw [e] at hq
        injection hq with hq
        have hq : g = q := hq
        omega
    · intro e
      subst e
      obtain ⟨cur, h3⟩ := own_type h.one.own hq
      have h4 := h3.symm.trans h.box
      simp at h4
  refine ⟨h.below.trans (hc.below h.below.size (fun k hk => (hlt k hk).1)), hc.row h.box (fun e => (hlt _ e).2 rfl), h1, h.two.aside hc (fun q hq e => h.apart q e hq) (fun q hq => own_type h.one.own hq), fun q hq hu => ?_⟩
  rcases hwh q hq with e | e
  · exact h.apart q e hu
  · obtain ⟨cur, h3⟩ := own_type h.two.own hu
    have h4 := (Array.getElem?_eq_some_iff.1 h3).1
    have h5 := (below_one W tmp).size
    omega
theorem Rx.up (h : Rx w W nm l ad c v vs (upF l) i u ws G k) (h8 : l.length ≤ 8) {a b : Nat} (ha : a < i) (hb : b < l.length) {r : Bool} (hr : wars (direct l) l.length a b = r) :
    Calls Tryd.prog 10 #[vs a, .int .i64 (b : Int)] W fun e w' => e = .returned (.bool r) ∧ Below W.heap.size W w' := by
  have := own_has (h.one.el a ha) (upF_len h8 a) b W (Below.refl _ _)
  rw [upF_has hb, hr] at this
  exact this
theorem Rx.dn (h : Rx w W nm l ad c v vs F i u ws (dnF l) k) (h8 : l.length ≤ 8) {a b : Nat} (ha : a < k) (hb : b < l.length) {r : Bool} (hr : wars (direct l) l.length b a = r) :
    Calls Tryd.prog 10 #[ws a, .int .i64 (b : Int)] W fun e w' => e = .returned (.bool r) ∧ Below W.heap.size W w' := by
  have := own_has (h.two.el a ha) (dnF_len h8 a) b W (Below.refl _ _)
  rw [dnF_has hb, hr] at this
  exact this
end
end Go.Proofs.YthlgcibckakhbaaDoor.Pl

/- odysseylaw12.PlanRings: the walk, by hand. -/
namespace Go.Proofs.YthlgcibckakhbaaDoor.Pl
open Go.RowKit Go.IntWalk Go.Proofs.YthlgcibckakhbaaDoorW.PrintWords Go.Proofs.YthlgcibckakhbaaDoorW.PrintLast Go.Proofs.YthlgcibckakhbaaDoorW.PrintMore Go.Proofs.YthlgcibckakhbaaDoor.PlName

set_option linter.unusedSimpArgs false in
set_option linter.unusedVariables false in
set_option maxHeartbeats 32000000 in
set_option maxRecDepth 100000 in
theorem planRings_calls (nm : ByteArray) (l : List Step) (A : Option Addr) (c : Nat) (w : World) (hnm : nm.size ≤ 140737488351232) (hS : StepsAt w A l) (hb : ∀ s ∈ l, StepB s) (hn : l.length ≤ 9000000000000) (hc : l.length ≤ c) (hT : TabsAt w) :
    Calls Tryd.prog 3 #[.agg #[.string nm, .slice A l.length c]] w fun e w' => e = .returned (.bool true) ∧ Below w.heap.size w w' := by
  have hbb := below_one w (.cells #[.string nm, .slice A l.length c] 24)
  have hr0 := alloc1 w (.cells #[.string nm, .slice A l.length c] 24)
  have hck := Aside0.mk (refCheck_calls nm l A c _ hnm (hS.below hbb) hb hn hc)
  have HW := Aside0.mk (And.intro hbb hr0)
  have HA := Aside0.mk (And.intro hS (And.intro hb (And.intro hT (And.intro hc hnm))))
  clear hbb hr0 hS hb hT
  go_enter Tryd.func3, Tryd.ntmps3
  cases hok : defOk nm l
  · rw [hok] at hck
    have hup := Aside0.mk (fun W (h : Below w.heap.size w W) => (by
      have := ahead_calls nm l A c 0 W HA.out.2.2.2.2 (HA.out.1.below h) HA.out.2.1 hn HA.out.2.2.2.1 (tabs_on HA.out.2.2.1 h)
      rw [show aheadL nm l 0 = [] by
        unfold aheadL
        rw [hok]
        rfl] at this
      exact this : Calls Tryd.prog 8 #[.agg #[.string nm, .slice A l.length c], .int .i64 0] W fun e w' => (∃ v, e = .returned v ∧ Own W w' v []) ∧ Below W.heap.size W w'))
    have hdn := Aside0.mk (fun W (h : Below w.heap.size w W) => (by
      have := behind_calls nm l A c 0 W HA.out.2.2.2.2 (HA.out.1.below h) HA.out.2.1 hn HA.out.2.2.2.1 (tabs_on HA.out.2.2.1 h)
      rw [show behindL nm l 0 = [] by
        unfold behindL
        rw [hok]
        rfl] at this
      exact this : Calls Tryd.prog 9 #[.agg #[.string nm, .slice A l.length c], .int .i64 0] W fun e w' => (∃ v, e = .returned v ∧ Own W w' v []) ∧ Below W.heap.size W w'))
    go_wp2_with (first | (go_at_call 6; refine hck.out.mono ?_; rintro e w1 ⟨⟨xa, xb, rfl, hxb⟩, hb1⟩; have hd1 : (xb != 0) = true := (by rw [bne, hxb]; rfl); have H1 := Aside0.mk (And.intro (on_ HW.out.1 hb1) (row_on hb1 HW.out.2)); clear hxb hb1) | (go_at_call 7; refine (live_calls _ (tabs_on HA.out.2.2.1 H1.out.1)).mono ?_; rintro e w2 ⟨rfl, hb2⟩; have H2 := Aside0.mk (And.intro (on_ H1.out.1 hb2) (row_on hb2 H1.out.2)); have hq20 := row_cell (j := 0) H2.out.2 rfl; have hq21 := row_cell (j := 1) H2.out.2 rfl; clear hb2) | (go_at_call 8; refine (hup.out _ H2.out.1).mono ?_; rintro e w3 ⟨⟨v3, rfl, ho3⟩, hb3⟩; obtain ⟨A3, c3, rfl⟩ := own_empty ho3; have H3 := Aside0.mk (And.intro (on_ H2.out.1 hb3) (row_on hb3 H2.out.2)); have hq30 := row_cell (j := 0) H3.out.2 rfl; have hq31 := row_cell (j := 1) H3.out.2 rfl; clear hb3 ho3) | (go_at_call 9; refine (hdn.out _ H3.out.1).mono ?_; rintro e w4 ⟨⟨v4, rfl, ho4⟩, hb4⟩; obtain ⟨A4, c4, rfl⟩ := own_empty ho4; have H4 := Aside0.mk (on_ H3.out.1 hb4); clear hb4 ho4))
    go_ret
    exact ⟨rfl, H4.out⟩
  · rw [hok] at hck
    obtain ⟨hl1, hl8, hal⟩ := defOk_len hok
    have hA := Aside0.mk (defOk_acyc hok)
    have HAL := Aside0.mk hal
    obtain ⟨ad, rfl, _⟩ := HA.out.1.one (stepAt_eq (l := l) (i := 0) (by omega))
    obtain ⟨i4, hi4, hz4, hs4, hb4⟩ := info_parts ints_info
    have HI := Aside0.mk (And.intro hi4 (And.intro hz4 (And.intro hs4 hb4)))
    have hup := Aside0.mk (fun W (h : Below w.heap.size w W) (x : Nat) (hx : x < l.length) => (by
      have := ahead_calls nm l (some ad) c (x : Int) W HA.out.2.2.2.2 (HA.out.1.below h) HA.out.2.1 hn HA.out.2.2.2.1 (tabs_on HA.out.2.2.1 h)
      rw [show aheadL nm l (x : Int) = upF l x by
        unfold aheadL
        rw [hok, decide_eq_true (p := 0 ≤ (x : Int) ∧ (x : Int) < l.length) (by omega)]
        rfl] at this
      exact this : Calls Tryd.prog 8 #[.agg #[.string nm, .slice (some ad) l.length c], .int .i64 (x : Int)] W fun e w' => (∃ v, e = .returned v ∧ Own W w' v (upF l x)) ∧ Below W.heap.size W w'))
    have hdn := Aside0.mk (fun W (h : Below w.heap.size w W) (x : Nat) (hx : x < l.length) => (by
      have := behind_calls nm l (some ad) c (x : Int) W HA.out.2.2.2.2 (HA.out.1.below h) HA.out.2.1 hn HA.out.2.2.2.1 (tabs_on HA.out.2.2.1 h)
      rw [show behindL nm l (x : Int) = dnF l x by
        unfold behindL
        rw [hok, decide_eq_true (p := 0 ≤ (x : Int) ∧ (x : Int) < l.length) (by omega)]
        rfl] at this
      exact this : Calls Tryd.prog 9 #[.agg #[.string nm, .slice (some ad) l.length c], .int .i64 (x : Int)] W fun e w' => (∃ v, e = .returned v ∧ Own W w' v (dnF l x)) ∧ Below W.heap.size W w'))
    clear hi4 hz4 hs4 hb4 hok hal
    go_wp2_with (first | (go_at_call 6; refine hck.out.mono ?_; rintro e w1 ⟨⟨xa, xb, rfl, hxb⟩, hb1⟩; have hd1 : (xb != 0) = false := (by rw [bne, hxb]; rfl); have H1 := Aside0.mk (And.intro (on_ HW.out.1 hb1) (row_on hb1 HW.out.2)); clear hxb hb1))
    go_loopw [5, 6, 7] (fun v5 v6 v7 wr => ∃ (i : Nat) (vs ws : Nat → Value), i ≤ l.length ∧ v7 = .int .i64 (i : Int) ∧ Rx w wr nm l ad c v5 vs (upF l) i v6 ws (dnF l) i) (fun _ _ v7 _ => l.length - (intOf v7).toNat)
    case atStart => exact ⟨0, fun _ => .bool false, fun _ => .bool false, Nat.zero_le _, rfl, H1.out.1, H1.out.2, Lg.start _ _ _ _, Lg.start _ _ _ _, fun q hq => (by cases hq)⟩
    case round =>
      obtain ⟨i, vs, ws, hi, rfl, hrx⟩ := hrel
      obtain ⟨hq0, hq1⟩ := hrx.cells
      have HR := Aside0.mk hrx
      clear H1 hrx
      by_cases hlt : i < l.length
      · have hd2 : decide ((i : Int) < (l.length : Int)) = true := decide_eq_true (by omega)
        go_wp2_with (first | (go_at_call 8; refine (hup.out _ HR.out.below i hlt).mono ?_; rintro e w4 ⟨⟨v4, rfl, ho4⟩, hb4⟩; obtain ⟨A4, c4, rfl, _, _⟩ := own_reads ho4; have H4 := Aside0.mk (And.intro (HR.out.on hb4) (ho4.low HR.out.below.size)); have hlow4 := H4.out.1.below.size; clear hb4 ho4) | (at_builtin; first | (refine wpList_append_where _ rfl (.tmp 39) (.tmp 43) 31 rfl w.heap.size 29 i4 (.slice none 0 0) 24 Tryd.underlying31 HI.out.1 HI.out.2.1 HI.out.2.2.1 HI.out.2.2.2 rfl _ i ((List.range i).map vs) rfl (H4.out.1.one.own.alloc _) ⟨w4.heap.size, 0, none⟩ 1 (.slice A4 _ c4) rfl (one_new _ _ _) (by intro u hu; simp at hu; subst hu; rfl) (by unfold maxLen; omega) (by omega) (by simp; omega) ?_; intro v5 w5 hown5 hgr5 hwh5; have H5 := Aside0.mk (H4.out.1.push H4.out.2 hown5 hgr5 hwh5); obtain ⟨hq50, hq51⟩ := H5.out.cells; clear hown5 hgr5 hwh5) | (refine wpList_append_where _ rfl (.tmp 45) (.tmp 49) 31 rfl w.heap.size 29 i4 (.slice none 0 0) 24 Tryd.underlying31 HI.out.1 HI.out.2.1 HI.out.2.2.1 HI.out.2.2.2 rfl _ i ((List.range i).map ws) rfl (H6.out.1.two.own.alloc _) ⟨w6.heap.size, 0, none⟩ 1 (.slice A6 _ c6) rfl (one_new _ _ _) (by intro u hu; simp at hu; subst hu; rfl) (by unfold maxLen; omega) (by omega) (by simp; omega) ?_; intro v7 w7 hown7 hgr7 hwh7; have H7 := Aside0.mk (H6.out.1.swap.push H6.out.2 hown7 hgr7 hwh7); clear hown7 hgr7 hwh7)) | (go_at_call 9; refine (hdn.out _ H5.out.below i hlt).mono ?_; rintro e w6 ⟨⟨v6, rfl, ho6⟩, hb6⟩; obtain ⟨A6, c6, rfl, _, _⟩ := own_reads ho6; have H6 := Aside0.mk (And.intro (H5.out.on hb6) (ho6.low H5.out.below.size)); have hlow6 := H6.out.1.below.size; clear hb6 ho6))
        go_roundw
        case rel => exact ⟨i + 1, _, _, hlt, by go_num, H7.out.swap⟩
        case measure => simp [intOf]; omega
      · have hi' : i = l.length := by omega
        have hd2 : decide ((i : Int) < (l.length : Int)) = false := decide_eq_false (by omega)
        subst hi'
        obtain ⟨g5, cap5, rfl⟩ := HR.out.one.head (by omega)
        obtain ⟨g6, cap6, rfl⟩ := HR.out.two.head (by omega)
        go_wp2_with fail
        clear hq0 hq1
        go_loopw [8] (fun v8 wr => ∃ i : Nat, i ≤ l.length ∧ v8 = .int .i64 (i : Int) ∧ Rx w wr nm l ad c (.slice (some ⟨g5, 0, none⟩) l.length cap5) vs (upF l) l.length (.slice (some ⟨g6, 0, none⟩) l.length cap6) ws (dnF l) l.length) (fun v8 _ => l.length - (intOf v8).toNat)
        case atStart => exact ⟨0, Nat.zero_le _, rfl, HR.out⟩
        case round =>
          clear HR hd2
          obtain ⟨i, hi, rfl, hrx⟩ := hrel
          obtain ⟨hq0, hq1⟩ := hrx.cells
          have HR := Aside0.mk hrx
          clear hrx
          by_cases hlt : i < l.length
          · have hd2 : decide ((i : Int) < (l.length : Int)) = true := decide_eq_true (by omega)
            have hc1 := HR.out.one.slot hlt
            go_wp2_with (first | (go_at_call 10; refine (HR.out.up hl8 hlt hlt (hA.out.irr i hlt)).mono ?_; rintro e w4 ⟨rfl, hb4⟩; have H4 := Aside0.mk (HR.out.on hb4); clear hb4))
            clear hq0 hq1 hc1
            go_loopw [9] (fun v9 wr => ∃ k : Nat, k ≤ l.length ∧ v9 = .int .i64 (k : Int) ∧ Rx w wr nm l ad c (.slice (some ⟨g5, 0, none⟩) l.length cap5) vs (upF l) l.length (.slice (some ⟨g6, 0, none⟩) l.length cap6) ws (dnF l) l.length) (fun v9 _ => l.length - (intOf v9).toNat)
            case atStart => exact ⟨0, Nat.zero_le _, rfl, H4.out⟩
            case round =>
              clear HR H4
              obtain ⟨k, hk, rfl, hrx⟩ := hrel
              obtain ⟨hq0, hq1⟩ := hrx.cells
              have HR := Aside0.mk hrx
              clear hrx
              by_cases hlk : k < l.length
              · have hd3 : decide ((k : Int) < (l.length : Int)) = true := decide_eq_true (by omega)
                have hc1 := HR.out.one.slot hlt
                have hc2 := HR.out.two.slot hlk
                cases hm : wars (direct l) l.length i k
                all_goals
                  go_wp2_with fail
                  refine start_ (n := 13) (S := fun w' => w'.cell? ⟨g5, i, none⟩ = some (vs i) ∧ w'.cell? ⟨g6, k, none⟩ = some (ws k) ∧ Rx w w' nm l ad c (.slice (some ⟨g5, 0, none⟩) l.length cap5) vs (upF l) l.length (.slice (some ⟨g6, 0, none⟩) l.length cap6) ws (dnF l) l.length) (ds := []) #[false, false, false, false, false, false, false, false, false, false, false, false, false] (by kernel_rfl) rfl rfl ⟨(by go_keep), (by go_keep), (HR.out.on (below_drew (Below.refl _ _)))⟩ (fun hHeld => ?_)
                  refine pure_ (i := 0) (N := some 71) (v := ?_) (a' := ?_) #[true, false, false, false, false, false, false, false, false, false, false, false, false] rfl rfl (by kernel_rfl) (fun _ _ _ h => h) (Or.inl ⟨by rfl, ?_⟩) ?_ ?_
                  rotate_left
                  · intro w'
                    go_simp
                    with_reducible rfl
                  rotate_left
                  · simp only [Act.put, List.setIfInBounds_toArray, List.set_cons_zero, List.set_cons_succ, i64_w, i32_w]
                    rfl
                  refine pure_ (i := 1) (N := some 72) (v := ?_) (a' := ?_) #[true, true, false, false, false, false, false, false, false, false, false, false, false] rfl rfl (by kernel_rfl) (fun _ _ _ h => h) (Or.inl ⟨by rfl, ?_⟩) ?_ ?_
                  rotate_left
                  · intro w'
                    go_simp
                    with_reducible rfl
                  rotate_left
                  · simp only [Act.put, List.setIfInBounds_toArray, List.set_cons_zero, List.set_cons_succ, i64_w, i32_w]
                    rfl
                  refine pure_ (i := 2) (N := some 73) (v := ?_) (a' := ?_) #[true, true, true, false, false, false, false, false, false, false, false, false, false] rfl rfl (by kernel_rfl) (fun _ _ _ h => h) (Or.inl ⟨by rfl, ?_⟩) ?_ ?_
                  rotate_left
                  · intro w'
                    go_simp
                    with_reducible rfl
                  rotate_left
                  · simp only [Act.put, List.setIfInBounds_toArray, List.set_cons_zero, List.set_cons_succ, i64_w, i32_w]
                    rfl
                  refine pure_ (i := 4) (N := some 75) (v := ?_) (a' := ?_) #[true, true, true, false, true, false, false, false, false, false, false, false, false] rfl rfl (by kernel_rfl) (fun _ _ _ h => h) (Or.inl ⟨by rfl, ?_⟩) ?_ ?_
                  rotate_left
                  · intro w'
                    go_simp
                    with_reducible rfl
                  rotate_left
                  · simp only [Act.put, List.setIfInBounds_toArray, List.set_cons_zero, List.set_cons_succ, i64_w, i32_w]
                    rfl
                  refine pure_ (i := 6) (N := some 77) (v := ?_) (a' := ?_) #[true, true, true, false, true, false, true, false, false, false, false, false, false] rfl rfl (by kernel_rfl) (fun _ _ _ h => h) (Or.inl ⟨by rfl, ?_⟩) ?_ ?_
                  rotate_left
                  · intro w'
                    go_simp
                    with_reducible rfl
                  rotate_left
                  · simp only [Act.put, List.setIfInBounds_toArray, List.set_cons_zero, List.set_cons_succ, i64_w, i32_w]
                    rfl
                  refine pure_ (i := 7) (N := some 78) (v := ?_) (a' := ?_) #[true, true, true, false, true, false, true, true, false, false, false, false, false] rfl rfl (by kernel_rfl) (fun _ _ _ h => h) (Or.inl ⟨by rfl, ?_⟩) ?_ ?_
                  rotate_left
                  · intro w'
                    go_simp
                    with_reducible rfl
                  rotate_left
                  · simp only [Act.put, List.setIfInBounds_toArray, List.set_cons_zero, List.set_cons_succ, i64_w, i32_w]
                    rfl
                  refine pure_ (i := 8) (N := some 79) (v := ?_) (a' := ?_) #[true, true, true, false, true, false, true, true, true, false, false, false, false] rfl rfl (by kernel_rfl) (fun _ _ _ h => h) (Or.inl ⟨by rfl, ?_⟩) ?_ ?_
                  rotate_left
                  · intro w'
                    go_simp
                    with_reducible rfl
                  rotate_left
                  · simp only [Act.put, List.setIfInBounds_toArray, List.set_cons_zero, List.set_cons_succ, i64_w, i32_w]
                    rfl
                  refine pure_ (i := 10) (N := some 81) (v := ?_) (a' := ?_) #[true, true, true, false, true, false, true, true, true, false, true, false, false] rfl rfl (by kernel_rfl) (fun _ _ _ h => h) (Or.inl ⟨by rfl, ?_⟩) ?_ ?_
                  rotate_left
                  · intro w'
                    go_simp
                    with_reducible rfl
                  rotate_left
                  · simp only [Act.put, List.setIfInBounds_toArray, List.set_cons_zero, List.set_cons_succ, i64_w, i32_w]
                    rfl
                  refine take_ (i := 3) (N := some 74) (v := ?_) (a' := ?_) #[true, true, true, true, true, false, true, true, true, false, true, false, false] rfl rfl (by kernel_rfl) (fun _ _ _ h => h) (Or.inl ⟨by rfl, ?_⟩) hHeld ?_ ?_
                  rotate_left
                  · rintro w' ⟨s0, s1, s2⟩
                    go_simp
                    with_reducible rfl
                  rotate_left
                  · simp only [Act.put, List.setIfInBounds_toArray, List.set_cons_zero, List.set_cons_succ, i64_w, i32_w]
                    rfl
                  refine take_ (i := 9) (N := some 80) (v := ?_) (a' := ?_) #[true, true, true, true, true, false, true, true, true, true, true, false, false] rfl rfl (by kernel_rfl) (fun _ _ _ h => h) (Or.inl ⟨by rfl, ?_⟩) hHeld ?_ ?_
                  rotate_left
                  · rintro w' ⟨s0, s1, s2⟩
                    go_simp
                    with_reducible rfl
                  rotate_left
                  · simp only [Act.put, List.setIfInBounds_toArray, List.set_cons_zero, List.set_cons_succ, i64_w, i32_w]
                    rfl
                  refine one_ (i := 5) (N := some 76) #[true, true, true, true, true, true, true, true, true, true, true, false, false] rfl rfl (by kernel_rfl) (by decide) (fun K hK => ?_)
                  refine goes_ Tryd.func10 (by kernel_rfl) rfl #[vs i, .int .i64 (k : Int)] (by rfl) rfl rfl (by simp only [List.map_toArray, List.map_cons, List.map_nil]; rfl) ?_
                  with_reducible refine (hHeld.2.2.up hl8 hlt hlk hm).mono ?_
                  rintro e w5 ⟨rfl, hb5⟩
                  refine ⟨_, rfl, ?_⟩
                  refine hK.out _ _ ⟨(cell_on hb5 hHeld.1), (cell_on hb5 hHeld.2.1), (hHeld.2.2.on hb5)⟩ (fun hHeld => ?_)
                  clear hK K
                  refine norm_ (a' := ?_) ?_ ?_
                  rotate_left
                  · show Act.put _ (some 76) _ = _
                    simp only [Act.put, List.setIfInBounds_toArray, List.set_cons_zero, List.set_cons_succ, i64_w, i32_w]
                    rfl
                  refine one_ (i := 11) (N := some 82) #[true, true, true, true, true, true, true, true, true, true, true, true, false] rfl rfl (by kernel_rfl) (by decide) (fun K hK => ?_)
                  refine goes_ Tryd.func10 (by kernel_rfl) rfl #[ws k, .int .i64 (i : Int)] (by rfl) rfl rfl (by simp only [List.map_toArray, List.map_cons, List.map_nil]; rfl) ?_
                  with_reducible refine (hHeld.2.2.dn hl8 hlk hlt hm).mono ?_
                  rintro e w6 ⟨rfl, hb6⟩
                  refine ⟨_, rfl, ?_⟩
                  refine hK.out _ _ ⟨(cell_on hb6 hHeld.1), (cell_on hb6 hHeld.2.1), (hHeld.2.2.on hb6)⟩ (fun hHeld => ?_)
                  clear hK K
                  refine norm_ (a' := ?_) ?_ ?_
                  rotate_left
                  · show Act.put _ (some 82) _ = _
                    simp only [Act.put, List.setIfInBounds_toArray, List.set_cons_zero, List.set_cons_succ, i64_w, i32_w]
                    rfl
                  refine pure_ (i := 12) (N := some 83) (v := ?_) (a' := ?_) #[true, true, true, true, true, true, true, true, true, true, true, true, true] rfl rfl (by kernel_rfl) (fun _ _ _ h => h) (Or.inl ⟨by rfl, ?_⟩) ?_ ?_
                  rotate_left
                  · intro w'
                    go_simp
                    with_reducible rfl
                  rotate_left
                  · simp only [Act.put, List.setIfInBounds_toArray, List.set_cons_zero, List.set_cons_succ, i64_w, i32_w]
                    rfl
                  refine done_ (by kernel_rfl) ?_
                  have H6 := Aside0.mk hHeld.2.2
                  clear hHeld hq0 hq1 hc1 hc2
                  go_wp2_with fail
                  go_loopw [10] (fun v10 wr => ∃ j : Nat, j ≤ l.length ∧ v10 = .int .i64 (j : Int) ∧ Rx w wr nm l ad c (.slice (some ⟨g5, 0, none⟩) l.length cap5) vs (upF l) l.length (.slice (some ⟨g6, 0, none⟩) l.length cap6) ws (dnF l) l.length) (fun v10 _ => l.length - (intOf v10).toNat)
                  case atStart => exact ⟨0, Nat.zero_le _, rfl, H6.out⟩
                  case round =>
                    clear HR H6
                    obtain ⟨j, hj, rfl, hrx⟩ := hrel
                    obtain ⟨hq0, hq1⟩ := hrx.cells
                    have HR := Aside0.mk hrx
                    clear hrx
                    by_cases hlj : j < l.length
                    · have hd4 : decide ((j : Int) < (l.length : Int)) = true := decide_eq_true (by omega)
                      have hc1 := HR.out.one.slot hlt
                      cases hm2 : wars (direct l) l.length k j
                      all_goals
                        have hm3 : Aside0 (wars (direct l) l.length i k = true → wars (direct l) l.length k j = true → wars (direct l) l.length i j = true) := ⟨fun e1 e2 => hA.out.trans i k j hlt hlk hlj e1 e2⟩
                        go_wp2_with (first | (go_at_call 10; first | (with_reducible refine (HR.out.up hl8 hlt hlk hm).mono ?_; rintro e w5 ⟨rfl, hb5⟩; have H5 := Aside0.mk (HR.out.on hb5); have hc5 := H5.out.one.slot hlk; clear hb5) | (with_reducible refine (H5.out.up hl8 hlk hlj hm2).mono ?_; rintro e w6 ⟨rfl, hb6⟩; have H6 := Aside0.mk (H5.out.on hb6); have hc6 := H6.out.one.slot hlt; clear hb6) | (with_reducible refine (H6.out.up hl8 hlt hlj (hm3.out hm hm2)).mono ?_; rintro e w7 ⟨rfl, hb7⟩; have H7 := Aside0.mk (H6.out.on hb7); clear hb7)))
                        go_roundw
                        case rel => exact ⟨j + 1, hlj, by go_num, by first | exact H7.out | exact H6.out | exact H5.out⟩
                        case measure => simp [intOf]; omega
                    · have hd4 : decide ((j : Int) < (l.length : Int)) = false := decide_eq_false (by omega)
                      go_wp2_with fail
                      go_roundw
                      case rel => exact ⟨k + 1, hlk, by go_num, HR.out⟩
                      case measure => simp [intOf]; omega
              · have hd3 : decide ((k : Int) < (l.length : Int)) = false := decide_eq_false (by omega)
                obtain ⟨_, e1, A1, c1, A2, c2, h1⟩ := HA.out.1.one (stepAt_eq hlt)
                cases e1
                have HN := Aside0.mk h1.needs
                have HS1 := Aside0.mk h1
                obtain ⟨hwin, hnl8⟩ := needs_in hl8 (HAL.out i hlt)
                have HWI := Aside0.mk hwin
                clear h1 hwin
                go_wp2_with fail
                clear hq0 hq1
                go_loopw [11] (fun v11 wr => ∃ j : Nat, j ≤ (stepAt l i).needs.length ∧ v11 = .int .i64 (j : Int) ∧ Rx w wr nm l ad c (.slice (some ⟨g5, 0, none⟩) l.length cap5) vs (upF l) l.length (.slice (some ⟨g6, 0, none⟩) l.length cap6) ws (dnF l) l.length) (fun v11 _ => (stepAt l i).needs.length - (intOf v11).toNat)
                case atStart => exact ⟨0, Nat.zero_le _, rfl, HR.out⟩
                case round =>
                  clear HR
                  obtain ⟨j, hj, rfl, hrx⟩ := hrel
                  obtain ⟨hq0, hq1⟩ := hrx.cells
                  have hc4 := (HS1.out.below hrx.below).c4
                  have HR := Aside0.mk hrx
                  clear hrx
                  by_cases hlj : j < (stepAt l i).needs.length
                  · have hd4 : decide ((j : Int) < ((stepAt l i).needs.length : Int)) = true := decide_eq_true (by omega)
                    obtain ⟨an, rfl, hx⟩ := int_at HN.out hlj
                    replace hx := cell_on HR.out.below hx
                    obtain ⟨hx0, hx1⟩ := HWI.out _ (List.getElem_mem hlj)
                    obtain ⟨m, hm⟩ : ∃ m : Nat, (stepAt l i).needs[j] = (m : Int) := ⟨(stepAt l i).needs[j].toNat, by omega⟩
                    have hml : m < l.length := by omega
                    have hmw : wars (direct l) l.length i m = true := wars_mono (direct_iff.2 ⟨⟨hlt, hml⟩, .inl (hm ▸ List.getElem_mem hlj)⟩) _
                    rw [hm] at hx
                    have hc1 := HR.out.one.slot hlt
                    clear hx0 hx1 hm
                    go_wp2_with fail
                    refine start_ (n := 15) (S := fun w' => w'.cell? ⟨g5, i, none⟩ = some (vs i) ∧ w'.cell? ⟨w.heap.size, 1, none⟩ = some (.slice (some ad) l.length c) ∧ w'.cell? ⟨(ad.add (i * 5)).block, (ad.add (i * 5)).off + 4, none⟩ = some (.slice (some an) (stepAt l i).needs.length c2) ∧ w'.cell? (an.add j) = some (.int .i64 (m : Int)) ∧ Rx w w' nm l ad c (.slice (some ⟨g5, 0, none⟩) l.length cap5) vs (upF l) l.length (.slice (some ⟨g6, 0, none⟩) l.length cap6) ws (dnF l) l.length) (ds := []) #[false, false, false, false, false, false, false, false, false, false, false, false, false, false, false] (by kernel_rfl) rfl rfl ⟨(by go_keep), (by go_keep), (by go_keep), (by go_keep), (HR.out.on (below_drew (Below.refl _ _)))⟩ (fun hHeld => ?_)
                    refine pure_ (i := 0) (N := some 125) (v := ?_) (a' := ?_) #[true, false, false, false, false, false, false, false, false, false, false, false, false, false, false] rfl rfl (by kernel_rfl) (fun _ _ _ h => h) (Or.inl ⟨by rfl, ?_⟩) ?_ ?_
                    rotate_left
                    · intro w'
                      go_simp
                      with_reducible rfl
                    rotate_left
                    · simp only [Act.put, List.setIfInBounds_toArray, List.set_cons_zero, List.set_cons_succ, i64_w, i32_w]
                      rfl
                    refine pure_ (i := 1) (N := some 126) (v := ?_) (a' := ?_) #[true, true, false, false, false, false, false, false, false, false, false, false, false, false, false] rfl rfl (by kernel_rfl) (fun _ _ _ h => h) (Or.inl ⟨by rfl, ?_⟩) ?_ ?_
                    rotate_left
                    · intro w'
                      go_simp
                      with_reducible rfl
                    rotate_left
                    · simp only [Act.put, List.setIfInBounds_toArray, List.set_cons_zero, List.set_cons_succ, i64_w, i32_w]
                      rfl
                    refine pure_ (i := 2) (N := some 127) (v := ?_) (a' := ?_) #[true, true, true, false, false, false, false, false, false, false, false, false, false, false, false] rfl rfl (by kernel_rfl) (fun _ _ _ h => h) (Or.inl ⟨by rfl, ?_⟩) ?_ ?_
                    rotate_left
                    · intro w'
                      go_simp
                      with_reducible rfl
                    rotate_left
                    · simp only [Act.put, List.setIfInBounds_toArray, List.set_cons_zero, List.set_cons_succ, i64_w, i32_w]
                      rfl
                    refine pure_ (i := 4) (N := some 129) (v := ?_) (a' := ?_) #[true, true, true, false, true, false, false, false, false, false, false, false, false, false, false] rfl rfl (by kernel_rfl) (fun _ _ _ h => h) (Or.inl ⟨by rfl, ?_⟩) ?_ ?_
                    rotate_left
                    · intro w'
                      go_simp
                      with_reducible rfl
                    rotate_left
                    · simp only [Act.put, List.setIfInBounds_toArray, List.set_cons_zero, List.set_cons_succ, i64_w, i32_w]
                      rfl
                    refine pure_ (i := 6) (N := some 131) (v := ?_) (a' := ?_) #[true, true, true, false, true, false, true, false, false, false, false, false, false, false, false] rfl rfl (by kernel_rfl) (fun _ _ _ h => h) (Or.inl ⟨by rfl, ?_⟩) ?_ ?_
                    rotate_left
                    · intro w'
                      go_simp
                      with_reducible rfl
                    rotate_left
                    · simp only [Act.put, List.setIfInBounds_toArray, List.set_cons_zero, List.set_cons_succ, i64_w, i32_w]
                      rfl
                    refine pure_ (i := 10) (N := some 135) (v := ?_) (a' := ?_) #[true, true, true, false, true, false, true, false, false, false, true, false, false, false, false] rfl rfl (by kernel_rfl) (fun _ _ _ h => h) (Or.inl ⟨by rfl, ?_⟩) ?_ ?_
                    rotate_left
                    · intro w'
                      go_simp
                      with_reducible rfl
                    rotate_left
                    · simp only [Act.put, List.setIfInBounds_toArray, List.set_cons_zero, List.set_cons_succ, i64_w, i32_w]
                      rfl
                    refine take_ (i := 3) (N := some 128) (v := ?_) (a' := ?_) #[true, true, true, true, true, false, true, false, false, false, true, false, false, false, false] rfl rfl (by kernel_rfl) (fun _ _ _ h => h) (Or.inl ⟨by rfl, ?_⟩) hHeld ?_ ?_
                    rotate_left
                    · rintro w' ⟨s0, s1, s2, s3, s4⟩
                      go_simp
                      with_reducible rfl
                    rotate_left
                    · simp only [Act.put, List.setIfInBounds_toArray, List.set_cons_zero, List.set_cons_succ, i64_w, i32_w]
                      rfl
                    refine take_ (i := 5) (N := some 130) (v := ?_) (a' := ?_) #[true, true, true, true, true, true, true, false, false, false, true, false, false, false, false] rfl rfl (by kernel_rfl) (fun _ _ _ h => h) (Or.inl ⟨by rfl, ?_⟩) hHeld ?_ ?_
                    rotate_left
                    · rintro w' ⟨s0, s1, s2, s3, s4⟩
                      go_simp
                      with_reducible rfl
                    rotate_left
                    · simp only [Act.put, List.setIfInBounds_toArray, List.set_cons_zero, List.set_cons_succ, i64_w, i32_w]
                      rfl
                    refine pure_ (i := 7) (N := some 132) (v := ?_) (a' := ?_) #[true, true, true, true, true, true, true, true, false, false, true, false, false, false, false] rfl rfl (by kernel_rfl) (fun _ _ _ h => h) (Or.inl ⟨by rfl, ?_⟩) ?_ ?_
                    rotate_left
                    · intro w'
                      go_simp
                      with_reducible rfl
                    rotate_left
                    · simp only [Act.put, List.setIfInBounds_toArray, List.set_cons_zero, List.set_cons_succ, i64_w, i32_w]
                      rfl
                    refine pure_ (i := 8) (N := some 133) (v := ?_) (a' := ?_) #[true, true, true, true, true, true, true, true, true, false, true, false, false, false, false] rfl rfl (by kernel_rfl) (fun _ _ _ h => h) (Or.inl ⟨by rfl, ?_⟩) ?_ ?_
                    rotate_left
                    · intro w'
                      go_simp
                      with_reducible rfl
                    rotate_left
                    · simp only [Act.put, List.setIfInBounds_toArray, List.set_cons_zero, List.set_cons_succ, i64_w, i32_w]
                      rfl
                    refine take_ (i := 9) (N := some 134) (v := ?_) (a' := ?_) #[true, true, true, true, true, true, true, true, true, true, true, false, false, false, false] rfl rfl (by kernel_rfl) (fun _ _ _ h => h) (Or.inl ⟨by rfl, ?_⟩) hHeld ?_ ?_
                    rotate_left
                    · rintro w' ⟨s0, s1, s2, s3, s4⟩
                      go_simp
                      with_reducible rfl
                    rotate_left
                    · simp only [Act.put, List.setIfInBounds_toArray, List.set_cons_zero, List.set_cons_succ, i64_w, i32_w]
                      rfl
                    refine pure_ (i := 11) (N := some 136) (v := ?_) (a' := ?_) #[true, true, true, true, true, true, true, true, true, true, true, true, false, false, false] rfl rfl (by kernel_rfl) (fun _ _ _ h => h) (Or.inl ⟨by rfl, ?_⟩) ?_ ?_
                    rotate_left
                    · intro w'
                      go_simp
                      with_reducible rfl
                    rotate_left
                    · simp only [Act.put, List.setIfInBounds_toArray, List.set_cons_zero, List.set_cons_succ, i64_w, i32_w]
                      rfl
                    refine take_ (i := 12) (N := some 137) (v := ?_) (a' := ?_) #[true, true, true, true, true, true, true, true, true, true, true, true, true, false, false] rfl rfl (by kernel_rfl) (fun _ _ _ h => h) (Or.inl ⟨by rfl, ?_⟩) hHeld ?_ ?_
                    rotate_left
                    · rintro w' ⟨s0, s1, s2, s3, s4⟩
                      go_simp
                      with_reducible rfl
                    rotate_left
                    · simp only [Act.put, List.setIfInBounds_toArray, List.set_cons_zero, List.set_cons_succ, i64_w, i32_w]
                      rfl
                    refine one_ (i := 13) (N := some 138) #[true, true, true, true, true, true, true, true, true, true, true, true, true, true, false] rfl rfl (by kernel_rfl) (by decide) (fun K hK => ?_)
                    refine goes_ Tryd.func10 (by kernel_rfl) rfl #[vs i, .int .i64 (m : Int)] (by rfl) rfl rfl (by simp only [List.map_toArray, List.map_cons, List.map_nil]; rfl) ?_
                    with_reducible refine (hHeld.2.2.2.2.up hl8 hlt hml hmw).mono ?_
                    rintro e w5 ⟨rfl, hb5⟩
                    refine ⟨_, rfl, ?_⟩
                    refine hK.out _ _ ⟨(cell_on hb5 hHeld.1), (cell_on hb5 hHeld.2.1), (cell_on hb5 hHeld.2.2.1), (cell_on hb5 hHeld.2.2.2.1), (hHeld.2.2.2.2.on hb5)⟩ (fun hHeld => ?_)
                    clear hK K
                    refine norm_ (a' := ?_) ?_ ?_
                    rotate_left
                    · show Act.put _ (some 138) _ = _
                      simp only [Act.put, List.setIfInBounds_toArray, List.set_cons_zero, List.set_cons_succ, i64_w, i32_w]
                      rfl
                    refine pure_ (i := 14) (N := some 139) (v := ?_) (a' := ?_) #[true, true, true, true, true, true, true, true, true, true, true, true, true, true, true] rfl rfl (by kernel_rfl) (fun _ _ _ h => h) (Or.inl ⟨by rfl, ?_⟩) ?_ ?_
                    rotate_left
                    · intro w'
                      go_simp
                      with_reducible rfl
                    rotate_left
                    · simp only [Act.put, List.setIfInBounds_toArray, List.set_cons_zero, List.set_cons_succ, i64_w, i32_w]
                      rfl
                    refine done_ (by kernel_rfl) ?_
                    have H6 := Aside0.mk hHeld.2.2.2.2
                    clear hHeld hq0 hq1 hc1 hc4
                    go_wp2_with fail
                    go_roundw
                    case rel => exact ⟨j + 1, hlj, by go_num, H6.out⟩
                    case measure => simp [intOf]; omega
                  · have hd4 : decide ((j : Int) < ((stepAt l i).needs.length : Int)) = false := decide_eq_false (by omega)
                    go_wp2_with fail
                    go_roundw
                    case rel => exact ⟨i + 1, hlt, by go_num, HR.out⟩
                    case measure => simp [intOf]; omega
          · have hd2 : decide ((i : Int) < (l.length : Int)) = false := decide_eq_false (by omega)
            go_wp2_with (first | (go_at_call 7; refine (live_calls _ (tabs_on HA.out.2.2.1 HR.out.below)).mono ?_; rintro e w2 ⟨rfl, hb2⟩))
            go_ret
            exact ⟨rfl, on_ HR.out.below hb2⟩
end Go.Proofs.YthlgcibckakhbaaDoor.Pl

/- A definition that came in, read as plain data. -/
namespace Go.Proofs.YthlgcibckakhbaaDoor.Opening
open Go.ChangeShapes Go.WideShapes Go.RowKit Go.Proofs.YthlgcibckakhbaaDoorW.PrintWords Go.Proofs.YthlgcibckakhbaaDoor.Pl

def DefK (w : World) (d : Def) (cs : List Value) : Prop := ∃ A c, cs = [.string d.name, .slice A d.steps.length c] ∧ d.steps.length ≤ c ∧ StepsAt w A d.steps
def DefB (d : Def) : Prop := d.name.size ≤ 140737488351232 ∧ (∀ s ∈ d.steps, StepB s) ∧ d.steps.length ≤ 9000000000000
theorem bytes9 : Tryd.prog.bytesOf 9 = 16 := by kernel_rfl
theorem bytes3 : Tryd.prog.bytesOf 3 = 8 := by kernel_rfl
theorem bytes35 : Tryd.prog.bytesOf 35 = 80 := by kernel_rfl
set_option maxRecDepth 100000 in
theorem opens_Step : OpensK Tryd.prog 35 StepK StepB := by
  refine ⟨fun enc w fuel cs x h hz => ?_⟩
  obtain ⟨hl, hf⟩ := fields Tryd.underlying35 h hz
  obtain ⟨a0, k0, b0⟩ := hf 0 _ rfl (.of (opens_string Tryd.underlying9))
  obtain ⟨a1, k1, b1⟩ := hf 1 _ rfl (.of (opens_int (k := .i64) Tryd.underlying3))
  obtain ⟨a2, k2, b2⟩ := hf 2 _ rfl (.of (opens_int (k := .i64) Tryd.underlying3))
  obtain ⟨a3, k3, b3⟩ := hf 3 _ rfl (.of (opens_slice Tryd.underlying33 (by kernel_rfl) (opens_string Tryd.underlying9)))
  obtain ⟨a4, k4, b4⟩ := hf 4 _ rfl (.of (opens_slice Tryd.underlying29 (by kernel_rfl) (opens_int (k := .i64) Tryd.underlying3)))
  have hn : cs.length = 5 := hl.trans (by kernel_rfl)
  obtain ⟨c0, r0, rfl, n0⟩ := cons_len hn
  obtain ⟨c1, r1, rfl, n1⟩ := cons_len n0
  obtain ⟨c2, r2, rfl, n2⟩ := cons_len n1
  obtain ⟨c3, r3, rfl, n3⟩ := cons_len n2
  obtain ⟨c4, r4, rfl, n4⟩ := cons_len n3
  obtain rfl := List.eq_nil_of_length_eq_zero n4
  replace k0 : [c0] = [.string a0] := k0
  cases k0
  replace k1 : [c1] = [.int .i64 a1] := k1
  cases k1
  replace k2 : [c2] = [.int .i64 a2] := k2
  cases k2
  obtain ⟨A3, d3, k3, hc3, hC3⟩ := k3
  replace k3 : [c3] = [.slice A3 a3.length d3] := k3
  cases k3
  obtain ⟨A4, d4, k4, hc4, hC4⟩ := k4
  replace k4 : [c4] = [.slice A4 a4.length d4] := k4
  cases k4
  refine ⟨⟨a0, a1, a2, a3, a4⟩, ⟨A3, d3, A4, d4, rfl, hc3, hC3, hc4, hC4⟩, ⟨b0, b1, b2, ⟨b3.1, ?_⟩, ⟨b4.1, ?_⟩⟩⟩
  · have := b3.2
    rw [bytes9] at this
    unfold reachBytes at this
    show a3.length ≤ _
    omega
  · have := b4.2
    rw [bytes3] at this
    unfold reachBytes at this
    show a4.length ≤ _
    omega
set_option maxRecDepth 100000 in
theorem opens_Def : OpensK Tryd.prog 24 DefK DefB := by
  refine ⟨fun enc w fuel cs x h hz => ?_⟩
  obtain ⟨hl, hf⟩ := fields Tryd.underlying24 h hz
  obtain ⟨a0, k0, b0⟩ := hf 0 _ rfl (.of (opens_string Tryd.underlying9))
  obtain ⟨a1, k1, b1⟩ := hf 1 _ rfl (K := fun w (l : List Step) cs => ∃ A c, cs = [.slice A l.length c] ∧ l.length ≤ c ∧ StepsAt w A l) (B := fun l => (∀ s ∈ l, StepB s) ∧ l.length * Tryd.prog.bytesOf 35 ≤ reachBytes) ⟨fun enc w fuel cs x hx hz => by
    obtain ⟨A, c, l, e, h1, h2, h3, h4⟩ := opensK_slice (sz := 5) Tryd.underlying22 (by kernel_rfl) opens_Step hx hz
    exact ⟨l, ⟨A, c, e, h1, h2⟩, h3, h4⟩⟩
  have hn : cs.length = 2 := hl.trans (by kernel_rfl)
  obtain ⟨c0, r0, rfl, n0⟩ := cons_len hn
  obtain ⟨c1, r1, rfl, n1⟩ := cons_len n0
  obtain rfl := List.eq_nil_of_length_eq_zero n1
  replace k0 : [c0] = [.string a0] := k0
  cases k0
  obtain ⟨A1, d1, k1, hc1, hC1⟩ := k1
  replace k1 : [c1] = [.slice A1 a1.length d1] := k1
  cases k1
  refine ⟨⟨a0, a1⟩, ⟨A1, d1, rfl, hc1, hC1⟩, b0, b1.1, ?_⟩
  have := b1.2
  rw [bytes35] at this
  unfold reachBytes at this
  show a1.length ≤ _
  omega
end Go.Proofs.YthlgcibckakhbaaDoor.Opening

/- PlanDone, at what came in. -/
namespace Go.Proofs.YthlgcibckakhbaaDoor.PlLaw
open Go.RowKit Go.Proofs.YthlgcibckakhbaaDoorW.PrintWords Go.Proofs.YthlgcibckakhbaaDoor.Pl

theorem cells_of {cs : Array Value} {l : List Value} (h : cs.toList = l) : cs = l.toArray := by
  cases cs
  simpa using h
end Go.Proofs.YthlgcibckakhbaaDoor.PlLaw

/- PlanRings, at what came in. -/
namespace Go.Proofs.YthlgcibckakhbaaDoor.PlLaw
open Go.RowKit Go.Proofs.YthlgcibckakhbaaDoorW.PrintWords Go.Proofs.YthlgcibckakhbaaDoor.Pl

theorem walkRings (cs0 : Array Value) (a0 : Def) (w : World) (hK0 : Opening.DefK w a0 cs0.toList) (w0 : Opening.DefB a0) (hT : PlName.TabsAt w) :
    Calls Tryd.prog 3 #[.agg cs0] w fun e w' => e = .returned (.bool true) ∧ Below w.heap.size w w' := by
  obtain ⟨A, c, e, hc, hS⟩ := hK0
  obtain rfl := cells_of e
  obtain ⟨b1, b2, b3⟩ := w0
  exact planRings_calls a0.name a0.steps A c w b1 hS b2 b3 hc hT
end Go.Proofs.YthlgcibckakhbaaDoor.PlLaw

/- The tables of unicode/utf8, as the row lists them. -/
namespace Go.Proofs.YthlgcibckakhbaaDoor.Pl
open Go.RowKit Go.Lib

abbrev laids : List (String × DataW Unit) := [("unicode/utf8.acceptRanges", Rows.laid_unicode_utf8_acceptRanges), ("unicode/utf8.first", Rows.laid_unicode_utf8_first)]
theorem u8extra : U8Extra Tryd.prog Tryd.lays260_ren := ⟨by kernel_rfl, by kernel_rfl, by kernel_rfl, by kernel_rfl, by kernel_rfl, by kernel_rfl, by kernel_rfl⟩
theorem tabs_laid {W : World} (h : laidMetH Tryd.prog laids W) : PlName.TabsAt W := by
  rw [MakeChecks.laidMetH_plain _ _ _ (by kernel_rfl)] at h
  have h4 := laidMet.reads h (n := "unicode/utf8.acceptRanges") (d := Rows.laid_unicode_utf8_acceptRanges) (List.mem_cons_self)
  have h3 := laidMet.reads h (n := "unicode/utf8.first") (d := Rows.laid_unicode_utf8_first) (List.mem_cons_of_mem _ List.mem_cons_self)
  rw [show Rows.laid_unicode_utf8_acceptRanges = acceptData by kernel_rfl] at h4
  rw [show Rows.laid_unicode_utf8_first = firstData by kernel_rfl] at h3
  exact utf8Tabs_of_reads Tryd.lays260 u8extra h3 h4
theorem door_met (os : Os) (args : Array Value) : laidMetH Tryd.prog laids ((World.laidAll Tryd.prog os laids).forCall (fun _ _ => 0) ⟨#[], args, []⟩).memory := by
  rw [MakeChecks.laidMetH_plain _ _ _ (by kernel_rfl)]
  exact laidMet_laidAll _ (by kernel_rfl) (by kernel_rfl)
theorem own : ownKnob Tryd.prog.godebug = none := by kernel_rfl
theorem laidOut : laidOutB Tryd.prog = true := by kernel_rfl
end Go.Proofs.YthlgcibckakhbaaDoor.Pl

/- The row of the law PlanRings, out of its walk. -/
namespace Go.Proofs.YthlgcibckakhbaaDoor.planRings
open Go.ChangeShapes Go.WideShapes Go.ChangeAt Go.RowKit
open Go.ChangeMaps (open_string shut_string)
theorem laidOut : laidOutB Tryd.prog = true := Pl.laidOut
set_option maxRecDepth 100000 in
theorem lifted (os : Os) (started : os.Started) (H : Type) (enc : TypeId × Value → H) :
    ReturnsInHanded {} Tryd.checked os 3 .any (fun w args => (Rows.planRingsSpec.pre enc Tryd.prog Tryd.f3 Rows.planRingsRow.domain false w args ∧ laidMetH Tryd.prog Pl.laids w) ∧ sizedMet enc Tryd.prog Tryd.f3 (OpenSpec.ofChange Rows.planRingsSpec) false w args) (Rows.planRingsSpec.post enc Tryd.prog Tryd.f3 false true false false) := by
  refine returnsInHanded_of_change_and (C := Tryd.checked) (X := fun w _ => laidMetH Tryd.prog Pl.laids w) (fun _ _ _ hh h => h.of_heap hh) Pl.own started (by kernel_rfl) Tryd.func3
    (ChangeSpec.witness_shaped (enc := enc) (C := Tryd.checked) (os := os) (X := fun w _ => laidMetH Tryd.prog Pl.laids w) false (World.laidAll Tryd.prog os Pl.laids) #[.agg #[(.string ByteArray.empty), (.slice none 0 0)]] 8 (World.laidAll_os _ _ _) (World.shaped_of_ZipB (by kernel_rfl) (by kernel_rfl)) (by kernel_rfl) (by kernel_rfl) (by kernel_rfl) (Pl.door_met os _)) ?_
  intro W base args ds gs before hval0 hW hcnd hsz0 hL _
  have hsz : (DataW.weightsEach Tryd.prog (Tryd.f3.params.toList ++ Rows.planRingsSpec.plain.varTypes Tryd.prog) (ds ++ gs)).all (· ≤ reachBytes) = true := hsz0
  have hval : ∀ (j : Nat) t v, Tryd.f3.params[j]? = some t → args[j]? = some v → Value.okWide Tryd.prog W .any base t v := hval0
  have hW' := hW
  obtain ⟨p, q, hA0, hV, rfl, hfz, hnd⟩ := hW
  have hA : DataW.TrodAll enc Tryd.prog W 0 (fun _ => true) true Tryd.f3.params.toList args.toList ds p := hA0
  rw [Tryd.params3] at hA hval hsz
  obtain ⟨v0, vs0, d0, ds0, p0, q0, hargs, rfl, rfl, h0, r0⟩ := trodAll_cons hA
  obtain ⟨rfl, rfl, rfl⟩ := trodAll_nil r0
  obtain rfl : args = #[v0] := by cases args; simp_all
  obtain ⟨rfl, rfl⟩ := trodVars_none hV
  have k0 := h0
  have lt0 : ∀ x ∈ p0, x.block < W.heap.size := by obtain ⟨m, hm⟩ := k0; exact DataW.trod_lt m _ _ _ hm
  obtain ⟨cs0, rfl, hs0⟩ := okWide_struct Tryd.underlying24 (hval 0 24 v0 rfl rfl)
  obtain ⟨a0, hK0, w0⟩ := Opening.openedK Opening.opens_Def hsz (j := 0) (t := 24) rfl rfl h0
  clear hA0 hval0 hsz0 hsz
  refine (PlLaw.walkRings cs0 a0 W hK0 w0 (Pl.tabs_laid hL)).mono fun e W' ⟨he, bel⟩ => ?_
  subst he
  exact ⟨_, rfl, _, _, _, [], _, [], hW', trodAll_mk1 (shut_bool Tryd.underlying4 _), (trodAll_cons_mk (Below.trod laidOut (by kernel_rfl) (of_decide_eq_true (by kernel_rfl)) k0 bel lt0) trodAll_mk0), rfl, bel.frame _, fun h => by cases h⟩
theorem over : Rows.planRingsRow.holds Tryd.pinned (OpenSpec.ofChange Rows.planRingsSpec) :=
  OpenClaim.holds_of_wide 3 Tryd.f3 rfl rfl rfl rfl rfl rfl rfl ⟨rfl, rfl, rfl, rfl, rfl⟩ rfl rfl rfl rfl rfl (by kernel_rfl) Tryd.func3 (by kernel_rfl)
    (of_decide_eq_true (by kernel_rfl)) (by unfold Func.isWrapper; first | (rw [if_pos (by decide +kernel)]; kernel_rfl) | (rw [if_neg (by decide +kernel)]; exact ⟨rfl, rfl⟩))
    (fun os started H enc _ => lifted os started H enc)
theorem proved : Rows.PlanRingsSaid := over
#print axioms proved
end Go.Proofs.YthlgcibckakhbaaDoor.planRings
namespace Go.Proofs.YthlgcibckakhbaaDoor
theorem planRings_row : Rows.PlanRingsSaid := planRings.proved
/-- The tied card, under a short name, for the claim. -/
theorem planRings_holds : Rows.PlanRingsCardSaid :=
  Claim7.holds_tied_plain_at .later [] [.data, .pinned] true (true, "e7a341cbb986b5d06509556b8b2a844a053843da5aa57f9c22996224cc2eff80") false planRings_row (fun _ h => by cases h) (by kernel_rfl) (fun _ h => by cases h) planRings_row_tie rfl ⟨rfl, rfl⟩ (by kernel_rfl) rfl
    (fun f fn hf hfn => by
      obtain rfl : f = 3 := Option.some.inj ((show Tryd.prog.funcNamed "odyssey/odysseylaw12.PlanRings" = some 3 by kernel_rfl).symm.trans hf) |>.symm
      obtain rfl : fn = Tryd.f3 := (Option.some.inj (Tryd.func3.symm.trans hfn)).symm
      exact ⟨by kernel_rfl, fun j t ht => by
        rw [Tryd.params3] at ht
        have hm : t ∈ [24] := by simpa using Array.mem_of_getElem? ht
        have hall : ([24].all fun u => !Tryd.prog.wantsStandIn u) = true := by kernel_rfl
        exact (show Tryd.prog.wantsStandIn t = false by simpa using List.all_eq_true.1 hall t hm)⟩)
    (by kernel_rfl)
end Go.Proofs.YthlgcibckakhbaaDoor
