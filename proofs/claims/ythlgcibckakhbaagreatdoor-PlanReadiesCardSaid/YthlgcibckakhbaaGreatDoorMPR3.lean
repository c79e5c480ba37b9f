/- Several texts in one, in build order: PlRNeeds, PlRAlone, PlROrder, PlRRing, PlRLoose. -/
import Derived.Test.YthlgcibckakhbaaGreatDoorMPR2
set_option linter.unusedVariables false
set_option linter.unusedSimpArgs false
/- odysseyref11.needs: the walk, by hand. -/
namespace Go.Proofs.YthlgcibckakhbaaGreatDoor.Pl
open Go.RowKit Go.IntWalk Go.Proofs.YthlgcibckakhbaaGreatDoorW.PrintWords Go.Proofs.YthlgcibckakhbaaGreatDoorW.PrintLast Go.Proofs.YthlgcibckakhbaaGreatDoorW.PrintMore Go.Proofs.YthlgcibckakhbaaGreatDoor.PlName

theorem lastOf_pos {l : List Int} {k : Nat} (h0 : 0 < k) (h : k ≤ l.length) : lastOf l k = l[k - 1]'(by omega) := by
 obtain ⟨m, rfl⟩ : ∃ m, k = m + 1 := ⟨k - 1, by omega⟩
 exact lastOf_succ (by omega)
set_option maxHeartbeats 8000000 in
set_option maxRecDepth 100000 in
theorem needsR_calls (A : Option Addr) (c : Nat) (ns : List Int) (n i : Nat) (w : World) (hk : Kd.C (Kd.int .i64) w A ns.length ns) (hl : ns.length ≤ 17592186044416) (hn : n ≤ 8) (hi : i < n) :
 Calls Tryz.prog 77 #[.slice A ns.length c, .int .i64 (i : Int), .int .i64 (n : Int)] w fun e w' => e = .returned (.bool (needsOk n i ns)) ∧ Below w.heap.size w w' := by
 have HK := Aside0.mk hk
 have HG0 : Aside0 (needsOk n i ns = goNeeds n i (lastOf ns 0) (ns.drop 0)) := ⟨by simp [lastOf, needsOk]⟩
 clear hk
 go_enter Tryz.func77, Tryz.ntmps77
 go_wp2
 go_loopw [7] (fun v7 wr => ∃ k : Nat, k ≤ ns.length ∧ v7 = .int .i64 (k : Int) ∧ needsOk n i ns = goNeeds n i (lastOf ns k) (ns.drop k) ∧ (0 < k → 0 ≤ lastOf ns k) ∧ Below w.heap.size w wr) (fun v7 _ => ns.length - (intOf v7).toNat)
 case atStart => exact ⟨0, Nat.zero_le _, rfl, HG0.out, fun h => absurd h (Nat.lt_irrefl _), Below.refl _ _⟩
 case round =>
  obtain ⟨k, hk, rfl, hg, hp, hB⟩ := hrel
  have HG := Aside0.mk hg
  have HBR := Aside0.mk hB
  clear hg hB
  by_cases hlt : k < ns.length
  · have hd2 : decide ((k : Int) < (ns.length : Int)) = true := decide_eq_true (by omega)
    obtain ⟨ad, rfl, hx⟩ := int_at HK.out hlt
    replace hx := cell_on HBR.out hx
    have hdrop : ns.drop k = ns[k] :: ns.drop (k + 1) := List.drop_eq_getElem_cons hlt
    have HL := Aside0.mk (lastOf_succ hlt)
    have hl0 : k = 0 → lastOf ns k = -1 := fun e => by subst e; rfl
    rw [hdrop, goNeeds] at HG
    by_cases hk0 : k = 0
    · have hlast := hl0 hk0
      have hd6 : decide (0 < (k : Int)) = false := decide_eq_false (by omega)
      have hd6n : decide (0 < k) = false := decide_eq_false (by omega)
      rw [hlast] at HG
      clear hl0 hp hlast hdrop hk0
      generalize ns[k] = x at *
      by_cases h1 : x < 0
      · have hd3 : decide (x < 0) = true := decide_eq_true h1
        have HFIN : Aside0 ((decide (-1 < x) && (decide (x < (n : Int)) && (decide (x ≠ (i : Int)) && goNeeds n i x (ns.drop (k + 1))))) = false) := ⟨by rw [decide_eq_false (by omega)]; rfl⟩
        clear h1
        go_wp2
        refine start_ (n := 37) (S := fun w' => w'.cell? (ad.add k) = some (.int .i64 x)) (ds := []) #[false,false,false,false,false,false,false,false,false,false,false,false,false,false,false,false,false,false,false,false,false,false,false,false,false,false,false,false,false,false,false,false,false,false,false,false,false] (by kernel_rfl) rfl rfl ((by go_keep)) (fun hHeld => ?_)
        refine pure_ (i := 0) (N := some 14) (v := ?_) (a' := ?_) #[true,false,false,false,false,false,false,false,false,false,false,false,false,false,false,false,false,false,false,false,false,false,false,false,false,false,false,false,false,false,false,false,false,false,false,false,false] rfl rfl (by kernel_rfl) (fun _ _ _ h => h) (Or.inl ⟨by rfl, ?_⟩) ?_ ?_
        rotate_left
        · intro w'
          go_simp
          with_reducible rfl
        rotate_left
        · simp only [Act.put, zA, zB, zC, i64_w, i32_w]
          rfl
        refine pure_ (i := 1) (N := some 15) (v := ?_) (a' := ?_) #[true,true,false,false,false,false,false,false,false,false,false,false,false,false,false,false,false,false,false,false,false,false,false,false,false,false,false,false,false,false,false,false,false,false,false,false,false] rfl rfl (by kernel_rfl) (fun _ _ _ h => h) (Or.inl ⟨by rfl, ?_⟩) ?_ ?_
        rotate_left
        · intro w'
          go_simp
          with_reducible rfl
        rotate_left
        · simp only [Act.put, zA, zB, zC, i64_w, i32_w]
          rfl
        refine pure_ (i := 2) (N := some 16) (v := ?_) (a' := ?_) #[true,true,true,false,false,false,false,false,false,false,false,false,false,false,false,false,false,false,false,false,false,false,false,false,false,false,false,false,false,false,false,false,false,false,false,false,false] rfl rfl (by kernel_rfl) (fun _ _ _ h => h) (Or.inl ⟨by rfl, ?_⟩) ?_ ?_
        rotate_left
        · intro w'
          go_simp
          with_reducible rfl
        rotate_left
        · simp only [Act.put, zA, zB, zC, i64_w, i32_w]
          rfl
        refine take_ (i := 3) (N := some 17) (v := ?_) (a' := ?_) #[true,true,true,true,false,false,false,false,false,false,false,false,false,false,false,false,false,false,false,false,false,false,false,false,false,false,false,false,false,false,false,false,false,false,false,false,false] rfl rfl (by kernel_rfl) (fun _ _ _ h => h) (Or.inl ⟨by rfl, ?_⟩) hHeld ?_ ?_
        rotate_left
        · intro w' s0
          go_simp
          with_reducible rfl
        rotate_left
        · simp only [Act.put, zA, zB, zC, i64_w, i32_w]
          rfl
        refine pure_ (i := 4) (N := some 18) (v := ?_) (a' := ?_) #[true,true,true,true,true,false,false,false,false,false,false,false,false,false,false,false,false,false,false,false,false,false,false,false,false,false,false,false,false,false,false,false,false,false,false,false,false] rfl rfl (by kernel_rfl) (fun _ _ _ h => h) (Or.inl ⟨by rfl, ?_⟩) ?_ ?_
        rotate_left
        · intro w'
          go_simp
          with_reducible rfl
        rotate_left
        · simp only [Act.put, zA, zB, zC, i64_w, i32_w]
          rfl
        refine pure_ (i := 5) (N := some 19) (v := ?_) (a' := ?_) #[true,true,true,true,true,true,false,false,false,false,false,false,false,false,false,false,false,false,false,false,false,false,false,false,false,false,false,false,false,false,false,false,false,false,false,false,false] rfl rfl (by kernel_rfl) (fun _ _ _ h => h) (Or.inl ⟨by rfl, ?_⟩) ?_ ?_
        rotate_left
        · intro w'
          go_simp
          with_reducible rfl
        rotate_left
        · simp only [Act.put, zA, zB, zC, i64_w, i32_w]
          rfl
        refine pure_ (i := 6) (N := some 20) (v := undef) (a' := ?_) #[true,true,true,true,true,true,true,false,false,false,false,false,false,false,false,false,false,false,false,false,false,false,false,false,false,false,false,false,false,false,false,false,false,false,false,false,false] rfl rfl (by kernel_rfl) (fun _ _ _ h => h) (Or.inr ⟨by rfl, rfl⟩) ?_ ?_
        rotate_left
        · simp only [Act.put, zA, zB, zC, i64_w, i32_w]
          rfl
        refine pure_ (i := 7) (N := some 21) (v := undef) (a' := ?_) #[true,true,true,true,true,true,true,true,false,false,false,false,false,false,false,false,false,false,false,false,false,false,false,false,false,false,false,false,false,false,false,false,false,false,false,false,false] rfl rfl (by kernel_rfl) (fun _ _ _ h => h) (Or.inr ⟨by rfl, rfl⟩) ?_ ?_
        rotate_left
        · simp only [Act.put, zA, zB, zC, i64_w, i32_w]
          rfl
        refine pure_ (i := 8) (N := some 22) (v := undef) (a' := ?_) #[true,true,true,true,true,true,true,true,true,false,false,false,false,false,false,false,false,false,false,false,false,false,false,false,false,false,false,false,false,false,false,false,false,false,false,false,false] rfl rfl (by kernel_rfl) (fun _ _ _ h => h) (Or.inr ⟨by rfl, rfl⟩) ?_ ?_
        rotate_left
        · simp only [Act.put, zA, zB, zC, i64_w, i32_w]
          rfl
        refine pure_ (i := 9) (N := some 23) (v := undef) (a' := ?_) #[true,true,true,true,true,true,true,true,true,true,false,false,false,false,false,false,false,false,false,false,false,false,false,false,false,false,false,false,false,false,false,false,false,false,false,false,false] rfl rfl (by kernel_rfl) (fun _ _ _ h => h) (Or.inr ⟨by rfl, rfl⟩) ?_ ?_
        rotate_left
        · simp only [Act.put, zA, zB, zC, i64_w, i32_w]
          rfl
        refine pure_ (i := 10) (N := some 24) (v := undef) (a' := ?_) #[true,true,true,true,true,true,true,true,true,true,true,false,false,false,false,false,false,false,false,false,false,false,false,false,false,false,false,false,false,false,false,false,false,false,false,false,false] rfl rfl (by kernel_rfl) (fun _ _ _ h => h) (Or.inr ⟨by rfl, rfl⟩) ?_ ?_
        rotate_left
        · simp only [Act.put, zA, zB, zC, i64_w, i32_w]
          rfl
        refine pure_ (i := 11) (N := some 25) (v := undef) (a' := ?_) #[true,true,true,true,true,true,true,true,true,true,true,true,false,false,false,false,false,false,false,false,false,false,false,false,false,false,false,false,false,false,false,false,false,false,false,false,false] rfl rfl (by kernel_rfl) (fun _ _ _ h => h) (Or.inr ⟨by rfl, rfl⟩) ?_ ?_
        rotate_left
        · simp only [Act.put, zA, zB, zC, i64_w, i32_w]
          rfl
        refine pure_ (i := 12) (N := some 26) (v := ?_) (a' := ?_) #[true,true,true,true,true,true,true,true,true,true,true,true,true,false,false,false,false,false,false,false,false,false,false,false,false,false,false,false,false,false,false,false,false,false,false,false,false] rfl rfl (by kernel_rfl) (fun _ _ _ h => h) (Or.inl ⟨by rfl, ?_⟩) ?_ ?_
        rotate_left
        · intro w'
          go_simp
          with_reducible rfl
        rotate_left
        · simp only [Act.put, zA, zB, zC, i64_w, i32_w]
          rfl
        refine pure_ (i := 13) (N := some 27) (v := ?_) (a' := ?_) #[true,true,true,true,true,true,true,true,true,true,true,true,true,true,false,false,false,false,false,false,false,false,false,false,false,false,false,false,false,false,false,false,false,false,false,false,false] rfl rfl (by kernel_rfl) (fun _ _ _ h => h) (Or.inl ⟨by rfl, ?_⟩) ?_ ?_
        rotate_left
        · intro w'
          go_simp
          with_reducible rfl
        rotate_left
        · simp only [Act.put, zA, zB, zC, i64_w, i32_w]
          rfl
        refine pure_ (i := 14) (N := some 28) (v := undef) (a' := ?_) #[true,true,true,true,true,true,true,true,true,true,true,true,true,true,true,false,false,false,false,false,false,false,false,false,false,false,false,false,false,false,false,false,false,false,false,false,false] rfl rfl (by kernel_rfl) (fun _ _ _ h => h) (Or.inr ⟨by rfl, rfl⟩) ?_ ?_
        rotate_left
        · simp only [Act.put, zA, zB, zC, i64_w, i32_w]
          rfl
        refine pure_ (i := 15) (N := some 29) (v := undef) (a' := ?_) #[true,true,true,true,true,true,true,true,true,true,true,true,true,true,true,true,false,false,false,false,false,false,false,false,false,false,false,false,false,false,false,false,false,false,false,false,false] rfl rfl (by kernel_rfl) (fun _ _ _ h => h) (Or.inr ⟨by rfl, rfl⟩) ?_ ?_
        rotate_left
        · simp only [Act.put, zA, zB, zC, i64_w, i32_w]
          rfl
        refine pure_ (i := 16) (N := some 30) (v := undef) (a' := ?_) #[true,true,true,true,true,true,true,true,true,true,true,true,true,true,true,true,true,false,false,false,false,false,false,false,false,false,false,false,false,false,false,false,false,false,false,false,false] rfl rfl (by kernel_rfl) (fun _ _ _ h => h) (Or.inr ⟨by rfl, rfl⟩) ?_ ?_
        rotate_left
        · simp only [Act.put, zA, zB, zC, i64_w, i32_w]
          rfl
        refine pure_ (i := 17) (N := some 31) (v := undef) (a' := ?_) #[true,true,true,true,true,true,true,true,true,true,true,true,true,true,true,true,true,true,false,false,false,false,false,false,false,false,false,false,false,false,false,false,false,false,false,false,false] rfl rfl (by kernel_rfl) (fun _ _ _ h => h) (Or.inr ⟨by rfl, rfl⟩) ?_ ?_
        rotate_left
        · simp only [Act.put, zA, zB, zC, i64_w, i32_w]
          rfl
        refine pure_ (i := 18) (N := some 32) (v := undef) (a' := ?_) #[true,true,true,true,true,true,true,true,true,true,true,true,true,true,true,true,true,true,true,false,false,false,false,false,false,false,false,false,false,false,false,false,false,false,false,false,false] rfl rfl (by kernel_rfl) (fun _ _ _ h => h) (Or.inr ⟨by rfl, rfl⟩) ?_ ?_
        rotate_left
        · simp only [Act.put, zA, zB, zC, i64_w, i32_w]
          rfl
        refine pure_ (i := 19) (N := some 33) (v := undef) (a' := ?_) #[true,true,true,true,true,true,true,true,true,true,true,true,true,true,true,true,true,true,true,true,false,false,false,false,false,false,false,false,false,false,false,false,false,false,false,false,false] rfl rfl (by kernel_rfl) (fun _ _ _ h => h) (Or.inr ⟨by rfl, rfl⟩) ?_ ?_
        rotate_left
        · simp only [Act.put, zA, zB, zC, i64_w, i32_w]
          rfl
        refine pure_ (i := 20) (N := some 34) (v := ?_) (a' := ?_) #[true,true,true,true,true,true,true,true,true,true,true,true,true,true,true,true,true,true,true,true,true,false,false,false,false,false,false,false,false,false,false,false,false,false,false,false,false] rfl rfl (by kernel_rfl) (fun _ _ _ h => h) (Or.inl ⟨by rfl, ?_⟩) ?_ ?_
        rotate_left
        · intro w'
          go_simp
          with_reducible rfl
        rotate_left
        · simp only [Act.put, zA, zB, zC, i64_w, i32_w]
          rfl
        refine pure_ (i := 21) (N := some 35) (v := ?_) (a' := ?_) #[true,true,true,true,true,true,true,true,true,true,true,true,true,true,true,true,true,true,true,true,true,true,false,false,false,false,false,false,false,false,false,false,false,false,false,false,false] rfl rfl (by kernel_rfl) (fun _ _ _ h => h) (Or.inl ⟨by rfl, ?_⟩) ?_ ?_
        rotate_left
        · intro w'
          go_simp
          with_reducible rfl
        rotate_left
        · simp only [Act.put, zA, zB, zC, i64_w, i32_w]
          rfl
        refine pure_ (i := 22) (N := some 36) (v := undef) (a' := ?_) #[true,true,true,true,true,true,true,true,true,true,true,true,true,true,true,true,true,true,true,true,true,true,true,false,false,false,false,false,false,false,false,false,false,false,false,false,false] rfl rfl (by kernel_rfl) (fun _ _ _ h => h) (Or.inr ⟨by rfl, rfl⟩) ?_ ?_
        rotate_left
        · simp only [Act.put, zA, zB, zC, i64_w, i32_w]
          rfl
        refine pure_ (i := 23) (N := some 37) (v := undef) (a' := ?_) #[true,true,true,true,true,true,true,true,true,true,true,true,true,true,true,true,true,true,true,true,true,true,true,true,false,false,false,false,false,false,false,false,false,false,false,false,false] rfl rfl (by kernel_rfl) (fun _ _ _ h => h) (Or.inr ⟨by rfl, rfl⟩) ?_ ?_
        rotate_left
        · simp only [Act.put, zA, zB, zC, i64_w, i32_w]
          rfl
        refine pure_ (i := 24) (N := some 38) (v := undef) (a' := ?_) #[true,true,true,true,true,true,true,true,true,true,true,true,true,true,true,true,true,true,true,true,true,true,true,true,true,false,false,false,false,false,false,false,false,false,false,false,false] rfl rfl (by kernel_rfl) (fun _ _ _ h => h) (Or.inr ⟨by rfl, rfl⟩) ?_ ?_
        rotate_left
        · simp only [Act.put, zA, zB, zC, i64_w, i32_w]
          rfl
        refine pure_ (i := 25) (N := some 39) (v := undef) (a' := ?_) #[true,true,true,true,true,true,true,true,true,true,true,true,true,true,true,true,true,true,true,true,true,true,true,true,true,true,false,false,false,false,false,false,false,false,false,false,false] rfl rfl (by kernel_rfl) (fun _ _ _ h => h) (Or.inr ⟨by rfl, rfl⟩) ?_ ?_
        rotate_left
        · simp only [Act.put, zA, zB, zC, i64_w, i32_w]
          rfl
        refine pure_ (i := 26) (N := some 40) (v := undef) (a' := ?_) #[true,true,true,true,true,true,true,true,true,true,true,true,true,true,true,true,true,true,true,true,true,true,true,true,true,true,true,false,false,false,false,false,false,false,false,false,false] rfl rfl (by kernel_rfl) (fun _ _ _ h => h) (Or.inr ⟨by rfl, rfl⟩) ?_ ?_
        rotate_left
        · simp only [Act.put, zA, zB, zC, i64_w, i32_w]
          rfl
        refine pure_ (i := 27) (N := some 41) (v := undef) (a' := ?_) #[true,true,true,true,true,true,true,true,true,true,true,true,true,true,true,true,true,true,true,true,true,true,true,true,true,true,true,true,false,false,false,false,false,false,false,false,false] rfl rfl (by kernel_rfl) (fun _ _ _ h => h) (Or.inr ⟨by rfl, rfl⟩) ?_ ?_
        rotate_left
        · simp only [Act.put, zA, zB, zC, i64_w, i32_w]
          rfl
        refine pure_ (i := 28) (N := some 42) (v := undef) (a' := ?_) #[true,true,true,true,true,true,true,true,true,true,true,true,true,true,true,true,true,true,true,true,true,true,true,true,true,true,true,true,true,false,false,false,false,false,false,false,false] rfl rfl (by kernel_rfl) (fun _ _ _ h => h) (Or.inr ⟨by rfl, rfl⟩) ?_ ?_
        rotate_left
        · simp only [Act.put, zA, zB, zC, i64_w, i32_w]
          rfl
        refine pure_ (i := 29) (N := some 43) (v := undef) (a' := ?_) #[true,true,true,true,true,true,true,true,true,true,true,true,true,true,true,true,true,true,true,true,true,true,true,true,true,true,true,true,true,true,false,false,false,false,false,false,false] rfl rfl (by kernel_rfl) (fun _ _ _ h => h) (Or.inr ⟨by rfl, rfl⟩) ?_ ?_
        rotate_left
        · simp only [Act.put, zA, zB, zC, i64_w, i32_w]
          rfl
        refine pure_ (i := 30) (N := some 44) (v := undef) (a' := ?_) #[true,true,true,true,true,true,true,true,true,true,true,true,true,true,true,true,true,true,true,true,true,true,true,true,true,true,true,true,true,true,true,false,false,false,false,false,false] rfl rfl (by kernel_rfl) (fun _ _ _ h => h) (Or.inr ⟨by rfl, rfl⟩) ?_ ?_
        rotate_left
        · simp only [Act.put, zA, zB, zC, i64_w, i32_w]
          rfl
        refine pure_ (i := 31) (N := some 45) (v := undef) (a' := ?_) #[true,true,true,true,true,true,true,true,true,true,true,true,true,true,true,true,true,true,true,true,true,true,true,true,true,true,true,true,true,true,true,true,false,false,false,false,false] rfl rfl (by kernel_rfl) (fun _ _ _ h => h) (Or.inr ⟨by rfl, rfl⟩) ?_ ?_
        rotate_left
        · simp only [Act.put, zA, zB, zC, i64_w, i32_w]
          rfl
        refine pure_ (i := 32) (N := some 46) (v := undef) (a' := ?_) #[true,true,true,true,true,true,true,true,true,true,true,true,true,true,true,true,true,true,true,true,true,true,true,true,true,true,true,true,true,true,true,true,true,false,false,false,false] rfl rfl (by kernel_rfl) (fun _ _ _ h => h) (Or.inr ⟨by rfl, rfl⟩) ?_ ?_
        rotate_left
        · simp only [Act.put, zA, zB, zC, i64_w, i32_w]
          rfl
        refine pure_ (i := 33) (N := some 47) (v := undef) (a' := ?_) #[true,true,true,true,true,true,true,true,true,true,true,true,true,true,true,true,true,true,true,true,true,true,true,true,true,true,true,true,true,true,true,true,true,true,false,false,false] rfl rfl (by kernel_rfl) (fun _ _ _ h => h) (Or.inr ⟨by rfl, rfl⟩) ?_ ?_
        rotate_left
        · simp only [Act.put, zA, zB, zC, i64_w, i32_w]
          rfl
        refine pure_ (i := 34) (N := some 48) (v := undef) (a' := ?_) #[true,true,true,true,true,true,true,true,true,true,true,true,true,true,true,true,true,true,true,true,true,true,true,true,true,true,true,true,true,true,true,true,true,true,true,false,false] rfl rfl (by kernel_rfl) (fun _ _ _ h => h) (Or.inr ⟨by rfl, rfl⟩) ?_ ?_
        rotate_left
        · simp only [Act.put, zA, zB, zC, i64_w, i32_w]
          rfl
        refine pure_ (i := 35) (N := some 49) (v := undef) (a' := ?_) #[true,true,true,true,true,true,true,true,true,true,true,true,true,true,true,true,true,true,true,true,true,true,true,true,true,true,true,true,true,true,true,true,true,true,true,true,false] rfl rfl (by kernel_rfl) (fun _ _ _ h => h) (Or.inr ⟨by rfl, rfl⟩) ?_ ?_
        rotate_left
        · simp only [Act.put, zA, zB, zC, i64_w, i32_w]
          rfl
        refine pure_ (i := 36) (N := some 50) (v := ?_) (a' := ?_) #[true,true,true,true,true,true,true,true,true,true,true,true,true,true,true,true,true,true,true,true,true,true,true,true,true,true,true,true,true,true,true,true,true,true,true,true,true] rfl rfl (by kernel_rfl) (fun _ _ _ h => h) (Or.inl ⟨by rfl, ?_⟩) ?_ ?_
        rotate_left
        · intro w'
          go_simp
          with_reducible rfl
        rotate_left
        · simp only [Act.put, zA, zB, zC, i64_w, i32_w]
          rfl
        refine done_ (by kernel_rfl) ?_
        go_wp2
        go_ret
        rw [HG.out, HFIN.out]
        exact ⟨rfl, below_drew HBR.out⟩
      · have hd3 : decide (x < 0) = false := decide_eq_false h1
        by_cases h2 : (n : Int) ≤ x
        · have hd4 : decide ((n : Int) ≤ x) = true := decide_eq_true h2
          have HFIN : Aside0 ((decide (-1 < x) && (decide (x < (n : Int)) && (decide (x ≠ (i : Int)) && goNeeds n i x (ns.drop (k + 1))))) = false) := ⟨by rw [decide_eq_false (p := x < (n : Int)) (by omega)]; simp⟩
          clear h1 h2
          go_wp2
          refine start_ (n := 37) (S := fun w' => w'.cell? (ad.add k) = some (.int .i64 x)) (ds := []) #[false,false,false,false,false,false,false,false,false,false,false,false,false,false,false,false,false,false,false,false,false,false,false,false,false,false,false,false,false,false,false,false,false,false,false,false,false] (by kernel_rfl) rfl rfl ((by go_keep)) (fun hHeld => ?_)
          refine pure_ (i := 0) (N := some 14) (v := ?_) (a' := ?_) #[true,false,false,false,false,false,false,false,false,false,false,false,false,false,false,false,false,false,false,false,false,false,false,false,false,false,false,false,false,false,false,false,false,false,false,false,false] rfl rfl (by kernel_rfl) (fun _ _ _ h => h) (Or.inl ⟨by rfl, ?_⟩) ?_ ?_
          rotate_left
          · intro w'
            go_simp
            with_reducible rfl
          rotate_left
          · simp only [Act.put, zA, zB, zC, i64_w, i32_w]
            rfl
          refine pure_ (i := 1) (N := some 15) (v := ?_) (a' := ?_) #[true,true,false,false,false,false,false,false,false,false,false,false,false,false,false,false,false,false,false,false,false,false,false,false,false,false,false,false,false,false,false,false,false,false,false,false,false] rfl rfl (by kernel_rfl) (fun _ _ _ h => h) (Or.inl ⟨by rfl, ?_⟩) ?_ ?_
          rotate_left
          · intro w'
            go_simp
            with_reducible rfl
          rotate_left
          · simp only [Act.put, zA, zB, zC, i64_w, i32_w]
            rfl
          refine pure_ (i := 2) (N := some 16) (v := ?_) (a' := ?_) #[true,true,true,false,false,false,false,false,false,false,false,false,false,false,false,false,false,false,false,false,false,false,false,false,false,false,false,false,false,false,false,false,false,false,false,false,false] rfl rfl (by kernel_rfl) (fun _ _ _ h => h) (Or.inl ⟨by rfl, ?_⟩) ?_ ?_
          rotate_left
          · intro w'
            go_simp
            with_reducible rfl
          rotate_left
          · simp only [Act.put, zA, zB, zC, i64_w, i32_w]
            rfl
          refine take_ (i := 3) (N := some 17) (v := ?_) (a' := ?_) #[true,true,true,true,false,false,false,false,false,false,false,false,false,false,false,false,false,false,false,false,false,false,false,false,false,false,false,false,false,false,false,false,false,false,false,false,false] rfl rfl (by kernel_rfl) (fun _ _ _ h => h) (Or.inl ⟨by rfl, ?_⟩) hHeld ?_ ?_
          rotate_left
          · intro w' s0
            go_simp
            with_reducible rfl
          rotate_left
          · simp only [Act.put, zA, zB, zC, i64_w, i32_w]
            rfl
          refine pure_ (i := 4) (N := some 18) (v := ?_) (a' := ?_) #[true,true,true,true,true,false,false,false,false,false,false,false,false,false,false,false,false,false,false,false,false,false,false,false,false,false,false,false,false,false,false,false,false,false,false,false,false] rfl rfl (by kernel_rfl) (fun _ _ _ h => h) (Or.inl ⟨by rfl, ?_⟩) ?_ ?_
          rotate_left
          · intro w'
            go_simp
            with_reducible rfl
          rotate_left
          · simp only [Act.put, zA, zB, zC, i64_w, i32_w]
            rfl
          refine pure_ (i := 5) (N := some 19) (v := ?_) (a' := ?_) #[true,true,true,true,true,true,false,false,false,false,false,false,false,false,false,false,false,false,false,false,false,false,false,false,false,false,false,false,false,false,false,false,false,false,false,false,false] rfl rfl (by kernel_rfl) (fun _ _ _ h => h) (Or.inl ⟨by rfl, ?_⟩) ?_ ?_
          rotate_left
          · intro w'
            go_simp
            with_reducible rfl
          rotate_left
          · simp only [Act.put, zA, zB, zC, i64_w, i32_w]
            rfl
          refine pure_ (i := 6) (N := some 20) (v := ?_) (a' := ?_) #[true,true,true,true,true,true,true,false,false,false,false,false,false,false,false,false,false,false,false,false,false,false,false,false,false,false,false,false,false,false,false,false,false,false,false,false,false] rfl rfl (by kernel_rfl) (fun _ _ _ h => h) (Or.inl ⟨by rfl, ?_⟩) ?_ ?_
          rotate_left
          · intro w'
            go_simp
            with_reducible rfl
          rotate_left
          · simp only [Act.put, zA, zB, zC, i64_w, i32_w]
            rfl
          refine pure_ (i := 7) (N := some 21) (v := ?_) (a' := ?_) #[true,true,true,true,true,true,true,true,false,false,false,false,false,false,false,false,false,false,false,false,false,false,false,false,false,false,false,false,false,false,false,false,false,false,false,false,false] rfl rfl (by kernel_rfl) (fun _ _ _ h => h) (Or.inl ⟨by rfl, ?_⟩) ?_ ?_
          rotate_left
          · intro w'
            go_simp
            with_reducible rfl
          rotate_left
          · simp only [Act.put, zA, zB, zC, i64_w, i32_w]
            rfl
          refine pure_ (i := 8) (N := some 22) (v := ?_) (a' := ?_) #[true,true,true,true,true,true,true,true,true,false,false,false,false,false,false,false,false,false,false,false,false,false,false,false,false,false,false,false,false,false,false,false,false,false,false,false,false] rfl rfl (by kernel_rfl) (fun _ _ _ h => h) (Or.inl ⟨by rfl, ?_⟩) ?_ ?_
          rotate_left
          · intro w'
            go_simp
            with_reducible rfl
          rotate_left
          · simp only [Act.put, zA, zB, zC, i64_w, i32_w]
            rfl
          refine pure_ (i := 10) (N := some 24) (v := ?_) (a' := ?_) #[true,true,true,true,true,true,true,true,true,false,true,false,false,false,false,false,false,false,false,false,false,false,false,false,false,false,false,false,false,false,false,false,false,false,false,false,false] rfl rfl (by kernel_rfl) (fun _ _ _ h => h) (Or.inl ⟨by rfl, ?_⟩) ?_ ?_
          rotate_left
          · intro w'
            go_simp
            with_reducible rfl
          rotate_left
          · simp only [Act.put, zA, zB, zC, i64_w, i32_w]
            rfl
          refine take_ (i := 9) (N := some 23) (v := ?_) (a' := ?_) #[true,true,true,true,true,true,true,true,true,true,true,false,false,false,false,false,false,false,false,false,false,false,false,false,false,false,false,false,false,false,false,false,false,false,false,false,false] rfl rfl (by kernel_rfl) (fun _ _ _ h => h) (Or.inl ⟨by rfl, ?_⟩) hHeld ?_ ?_
          rotate_left
          · intro w' s0
            go_simp
            with_reducible rfl
          rotate_left
          · simp only [Act.put, zA, zB, zC, i64_w, i32_w]
            rfl
          refine pure_ (i := 11) (N := some 25) (v := ?_) (a' := ?_) #[true,true,true,true,true,true,true,true,true,true,true,true,false,false,false,false,false,false,false,false,false,false,false,false,false,false,false,false,false,false,false,false,false,false,false,false,false] rfl rfl (by kernel_rfl) (fun _ _ _ h => h) (Or.inl ⟨by rfl, ?_⟩) ?_ ?_
          rotate_left
          · intro w'
            go_simp
            with_reducible rfl
          rotate_left
          · simp only [Act.put, zA, zB, zC, i64_w, i32_w]
            rfl
          refine pure_ (i := 12) (N := some 26) (v := ?_) (a' := ?_) #[true,true,true,true,true,true,true,true,true,true,true,true,true,false,false,false,false,false,false,false,false,false,false,false,false,false,false,false,false,false,false,false,false,false,false,false,false] rfl rfl (by kernel_rfl) (fun _ _ _ h => h) (Or.inl ⟨by rfl, ?_⟩) ?_ ?_
          rotate_left
          · intro w'
            go_simp
            with_reducible rfl
          rotate_left
          · simp only [Act.put, zA, zB, zC, i64_w, i32_w]
            rfl
          refine pure_ (i := 13) (N := some 27) (v := ?_) (a' := ?_) #[true,true,true,true,true,true,true,true,true,true,true,true,true,true,false,false,false,false,false,false,false,false,false,false,false,false,false,false,false,false,false,false,false,false,false,false,false] rfl rfl (by kernel_rfl) (fun _ _ _ h => h) (Or.inl ⟨by rfl, ?_⟩) ?_ ?_
          rotate_left
          · intro w'
            go_simp
            with_reducible rfl
          rotate_left
          · simp only [Act.put, zA, zB, zC, i64_w, i32_w]
            rfl
          refine pure_ (i := 14) (N := some 28) (v := undef) (a' := ?_) #[true,true,true,true,true,true,true,true,true,true,true,true,true,true,true,false,false,false,false,false,false,false,false,false,false,false,false,false,false,false,false,false,false,false,false,false,false] rfl rfl (by kernel_rfl) (fun _ _ _ h => h) (Or.inr ⟨by rfl, rfl⟩) ?_ ?_
          rotate_left
          · simp only [Act.put, zA, zB, zC, i64_w, i32_w]
            rfl
          refine pure_ (i := 15) (N := some 29) (v := undef) (a' := ?_) #[true,true,true,true,true,true,true,true,true,true,true,true,true,true,true,true,false,false,false,false,false,false,false,false,false,false,false,false,false,false,false,false,false,false,false,false,false] rfl rfl (by kernel_rfl) (fun _ _ _ h => h) (Or.inr ⟨by rfl, rfl⟩) ?_ ?_
          rotate_left
          · simp only [Act.put, zA, zB, zC, i64_w, i32_w]
            rfl
          refine pure_ (i := 16) (N := some 30) (v := undef) (a' := ?_) #[true,true,true,true,true,true,true,true,true,true,true,true,true,true,true,true,true,false,false,false,false,false,false,false,false,false,false,false,false,false,false,false,false,false,false,false,false] rfl rfl (by kernel_rfl) (fun _ _ _ h => h) (Or.inr ⟨by rfl, rfl⟩) ?_ ?_
          rotate_left
          · simp only [Act.put, zA, zB, zC, i64_w, i32_w]
            rfl
          refine pure_ (i := 17) (N := some 31) (v := undef) (a' := ?_) #[true,true,true,true,true,true,true,true,true,true,true,true,true,true,true,true,true,true,false,false,false,false,false,false,false,false,false,false,false,false,false,false,false,false,false,false,false] rfl rfl (by kernel_rfl) (fun _ _ _ h => h) (Or.inr ⟨by rfl, rfl⟩) ?_ ?_
          rotate_left
          · simp only [Act.put, zA, zB, zC, i64_w, i32_w]
            rfl
          refine pure_ (i := 18) (N := some 32) (v := undef) (a' := ?_) #[true,true,true,true,true,true,true,true,true,true,true,true,true,true,true,true,true,true,true,false,false,false,false,false,false,false,false,false,false,false,false,false,false,false,false,false,false] rfl rfl (by kernel_rfl) (fun _ _ _ h => h) (Or.inr ⟨by rfl, rfl⟩) ?_ ?_
          rotate_left
          · simp only [Act.put, zA, zB, zC, i64_w, i32_w]
            rfl
          refine pure_ (i := 19) (N := some 33) (v := undef) (a' := ?_) #[true,true,true,true,true,true,true,true,true,true,true,true,true,true,true,true,true,true,true,true,false,false,false,false,false,false,false,false,false,false,false,false,false,false,false,false,false] rfl rfl (by kernel_rfl) (fun _ _ _ h => h) (Or.inr ⟨by rfl, rfl⟩) ?_ ?_
          rotate_left
          · simp only [Act.put, zA, zB, zC, i64_w, i32_w]
            rfl
          refine pure_ (i := 20) (N := some 34) (v := ?_) (a' := ?_) #[true,true,true,true,true,true,true,true,true,true,true,true,true,true,true,true,true,true,true,true,true,false,false,false,false,false,false,false,false,false,false,false,false,false,false,false,false] rfl rfl (by kernel_rfl) (fun _ _ _ h => h) (Or.inl ⟨by rfl, ?_⟩) ?_ ?_
          rotate_left
          · intro w'
            go_simp
            with_reducible rfl
          rotate_left
          · simp only [Act.put, zA, zB, zC, i64_w, i32_w]
            rfl
          refine pure_ (i := 21) (N := some 35) (v := ?_) (a' := ?_) #[true,true,true,true,true,true,true,true,true,true,true,true,true,true,true,true,true,true,true,true,true,true,false,false,false,false,false,false,false,false,false,false,false,false,false,false,false] rfl rfl (by kernel_rfl) (fun _ _ _ h => h) (Or.inl ⟨by rfl, ?_⟩) ?_ ?_
          rotate_left
          · intro w'
            go_simp
            with_reducible rfl
          rotate_left
          · simp only [Act.put, zA, zB, zC, i64_w, i32_w]
            rfl
          refine pure_ (i := 22) (N := some 36) (v := undef) (a' := ?_) #[true,true,true,true,true,true,true,true,true,true,true,true,true,true,true,true,true,true,true,true,true,true,true,false,false,false,false,false,false,false,false,false,false,false,false,false,false] rfl rfl (by kernel_rfl) (fun _ _ _ h => h) (Or.inr ⟨by rfl, rfl⟩) ?_ ?_
          rotate_left
          · simp only [Act.put, zA, zB, zC, i64_w, i32_w]
            rfl
          refine pure_ (i := 23) (N := some 37) (v := undef) (a' := ?_) #[true,true,true,true,true,true,true,true,true,true,true,true,true,true,true,true,true,true,true,true,true,true,true,true,false,false,false,false,false,false,false,false,false,false,false,false,false] rfl rfl (by kernel_rfl) (fun _ _ _ h => h) (Or.inr ⟨by rfl, rfl⟩) ?_ ?_
          rotate_left
          · simp only [Act.put, zA, zB, zC, i64_w, i32_w]
            rfl
          refine pure_ (i := 24) (N := some 38) (v := undef) (a' := ?_) #[true,true,true,true,true,true,true,true,true,true,true,true,true,true,true,true,true,true,true,true,true,true,true,true,true,false,false,false,false,false,false,false,false,false,false,false,false] rfl rfl (by kernel_rfl) (fun _ _ _ h => h) (Or.inr ⟨by rfl, rfl⟩) ?_ ?_
          rotate_left
          · simp only [Act.put, zA, zB, zC, i64_w, i32_w]
            rfl
          refine pure_ (i := 25) (N := some 39) (v := undef) (a' := ?_) #[true,true,true,true,true,true,true,true,true,true,true,true,true,true,true,true,true,true,true,true,true,true,true,true,true,true,false,false,false,false,false,false,false,false,false,false,false] rfl rfl (by kernel_rfl) (fun _ _ _ h => h) (Or.inr ⟨by rfl, rfl⟩) ?_ ?_
          rotate_left
          · simp only [Act.put, zA, zB, zC, i64_w, i32_w]
            rfl
          refine pure_ (i := 26) (N := some 40) (v := undef) (a' := ?_) #[true,true,true,true,true,true,true,true,true,true,true,true,true,true,true,true,true,true,true,true,true,true,true,true,true,true,true,false,false,false,false,false,false,false,false,false,false] rfl rfl (by kernel_rfl) (fun _ _ _ h => h) (Or.inr ⟨by rfl, rfl⟩) ?_ ?_
          rotate_left
          · simp only [Act.put, zA, zB, zC, i64_w, i32_w]
            rfl
          refine pure_ (i := 27) (N := some 41) (v := undef) (a' := ?_) #[true,true,true,true,true,true,true,true,true,true,true,true,true,true,true,true,true,true,true,true,true,true,true,true,true,true,true,true,false,false,false,false,false,false,false,false,false] rfl rfl (by kernel_rfl) (fun _ _ _ h => h) (Or.inr ⟨by rfl, rfl⟩) ?_ ?_
          rotate_left
          · simp only [Act.put, zA, zB, zC, i64_w, i32_w]
            rfl
          refine pure_ (i := 28) (N := some 42) (v := undef) (a' := ?_) #[true,true,true,true,true,true,true,true,true,true,true,true,true,true,true,true,true,true,true,true,true,true,true,true,true,true,true,true,true,false,false,false,false,false,false,false,false] rfl rfl (by kernel_rfl) (fun _ _ _ h => h) (Or.inr ⟨by rfl, rfl⟩) ?_ ?_
          rotate_left
          · simp only [Act.put, zA, zB, zC, i64_w, i32_w]
            rfl
          refine pure_ (i := 29) (N := some 43) (v := undef) (a' := ?_) #[true,true,true,true,true,true,true,true,true,true,true,true,true,true,true,true,true,true,true,true,true,true,true,true,true,true,true,true,true,true,false,false,false,false,false,false,false] rfl rfl (by kernel_rfl) (fun _ _ _ h => h) (Or.inr ⟨by rfl, rfl⟩) ?_ ?_
          rotate_left
          · simp only [Act.put, zA, zB, zC, i64_w, i32_w]
            rfl
          refine pure_ (i := 30) (N := some 44) (v := undef) (a' := ?_) #[true,true,true,true,true,true,true,true,true,true,true,true,true,true,true,true,true,true,true,true,true,true,true,true,true,true,true,true,true,true,true,false,false,false,false,false,false] rfl rfl (by kernel_rfl) (fun _ _ _ h => h) (Or.inr ⟨by rfl, rfl⟩) ?_ ?_
          rotate_left
          · simp only [Act.put, zA, zB, zC, i64_w, i32_w]
            rfl
          refine pure_ (i := 31) (N := some 45) (v := undef) (a' := ?_) #[true,true,true,true,true,true,true,true,true,true,true,true,true,true,true,true,true,true,true,true,true,true,true,true,true,true,true,true,true,true,true,true,false,false,false,false,false] rfl rfl (by kernel_rfl) (fun _ _ _ h => h) (Or.inr ⟨by rfl, rfl⟩) ?_ ?_
          rotate_left
          · simp only [Act.put, zA, zB, zC, i64_w, i32_w]
            rfl
          refine pure_ (i := 32) (N := some 46) (v := undef) (a' := ?_) #[true,true,true,true,true,true,true,true,true,true,true,true,true,true,true,true,true,true,true,true,true,true,true,true,true,true,true,true,true,true,true,true,true,false,false,false,false] rfl rfl (by kernel_rfl) (fun _ _ _ h => h) (Or.inr ⟨by rfl, rfl⟩) ?_ ?_
          rotate_left
          · simp only [Act.put, zA, zB, zC, i64_w, i32_w]
            rfl
          refine pure_ (i := 33) (N := some 47) (v := undef) (a' := ?_) #[true,true,true,true,true,true,true,true,true,true,true,true,true,true,true,true,true,true,true,true,true,true,true,true,true,true,true,true,true,true,true,true,true,true,false,false,false] rfl rfl (by kernel_rfl) (fun _ _ _ h => h) (Or.inr ⟨by rfl, rfl⟩) ?_ ?_
          rotate_left
          · simp only [Act.put, zA, zB, zC, i64_w, i32_w]
            rfl
          refine pure_ (i := 34) (N := some 48) (v := undef) (a' := ?_) #[true,true,true,true,true,true,true,true,true,true,true,true,true,true,true,true,true,true,true,true,true,true,true,true,true,true,true,true,true,true,true,true,true,true,true,false,false] rfl rfl (by kernel_rfl) (fun _ _ _ h => h) (Or.inr ⟨by rfl, rfl⟩) ?_ ?_
          rotate_left
          · simp only [Act.put, zA, zB, zC, i64_w, i32_w]
            rfl
          refine pure_ (i := 35) (N := some 49) (v := undef) (a' := ?_) #[true,true,true,true,true,true,true,true,true,true,true,true,true,true,true,true,true,true,true,true,true,true,true,true,true,true,true,true,true,true,true,true,true,true,true,true,false] rfl rfl (by kernel_rfl) (fun _ _ _ h => h) (Or.inr ⟨by rfl, rfl⟩) ?_ ?_
          rotate_left
          · simp only [Act.put, zA, zB, zC, i64_w, i32_w]
            rfl
          refine pure_ (i := 36) (N := some 50) (v := ?_) (a' := ?_) #[true,true,true,true,true,true,true,true,true,true,true,true,true,true,true,true,true,true,true,true,true,true,true,true,true,true,true,true,true,true,true,true,true,true,true,true,true] rfl rfl (by kernel_rfl) (fun _ _ _ h => h) (Or.inl ⟨by rfl, ?_⟩) ?_ ?_
          rotate_left
          · intro w'
            go_simp
            with_reducible rfl
          rotate_left
          · simp only [Act.put, zA, zB, zC, i64_w, i32_w]
            rfl
          refine done_ (by kernel_rfl) ?_
          go_wp2
          go_ret
          rw [HG.out, HFIN.out]
          exact ⟨rfl, below_drew HBR.out⟩
        · have hd4 : decide ((n : Int) ≤ x) = false := decide_eq_false h2
          by_cases h3 : x = (i : Int)
          · have hd5 : (x == (i : Int)) = true := beq_iff_eq.2 h3
            have HFIN : Aside0 ((decide (-1 < x) && (decide (x < (n : Int)) && (decide (x ≠ (i : Int)) && goNeeds n i x (ns.drop (k + 1))))) = false) := ⟨by rw [decide_eq_false (p := x ≠ (i : Int)) (by omega)]; simp⟩
            clear h1 h2 h3
            go_wp2
            refine start_ (n := 37) (S := fun w' => w'.cell? (ad.add k) = some (.int .i64 x)) (ds := []) #[false,false,false,false,false,false,false,false,false,false,false,false,false,false,false,false,false,false,false,false,false,false,false,false,false,false,false,false,false,false,false,false,false,false,false,false,false] (by kernel_rfl) rfl rfl ((by go_keep)) (fun hHeld => ?_)
            refine pure_ (i := 0) (N := some 14) (v := ?_) (a' := ?_) #[true,false,false,false,false,false,false,false,false,false,false,false,false,false,false,false,false,false,false,false,false,false,false,false,false,false,false,false,false,false,false,false,false,false,false,false,false] rfl rfl (by kernel_rfl) (fun _ _ _ h => h) (Or.inl ⟨by rfl, ?_⟩) ?_ ?_
            rotate_left
            · intro w'
              go_simp
              with_reducible rfl
            rotate_left
            · simp only [Act.put, zA, zB, zC, i64_w, i32_w]
              rfl
            refine pure_ (i := 1) (N := some 15) (v := ?_) (a' := ?_) #[true,true,false,false,false,false,false,false,false,false,false,false,false,false,false,false,false,false,false,false,false,false,false,false,false,false,false,false,false,false,false,false,false,false,false,false,false] rfl rfl (by kernel_rfl) (fun _ _ _ h => h) (Or.inl ⟨by rfl, ?_⟩) ?_ ?_
            rotate_left
            · intro w'
              go_simp
              with_reducible rfl
            rotate_left
            · simp only [Act.put, zA, zB, zC, i64_w, i32_w]
              rfl
            refine pure_ (i := 2) (N := some 16) (v := ?_) (a' := ?_) #[true,true,true,false,false,false,false,false,false,false,false,false,false,false,false,false,false,false,false,false,false,false,false,false,false,false,false,false,false,false,false,false,false,false,false,false,false] rfl rfl (by kernel_rfl) (fun _ _ _ h => h) (Or.inl ⟨by rfl, ?_⟩) ?_ ?_
            rotate_left
            · intro w'
              go_simp
              with_reducible rfl
            rotate_left
            · simp only [Act.put, zA, zB, zC, i64_w, i32_w]
              rfl
            refine take_ (i := 3) (N := some 17) (v := ?_) (a' := ?_) #[true,true,true,true,false,false,false,false,false,false,false,false,false,false,false,false,false,false,false,false,false,false,false,false,false,false,false,false,false,false,false,false,false,false,false,false,false] rfl rfl (by kernel_rfl) (fun _ _ _ h => h) (Or.inl ⟨by rfl, ?_⟩) hHeld ?_ ?_
            rotate_left
            · intro w' s0
              go_simp
              with_reducible rfl
            rotate_left
            · simp only [Act.put, zA, zB, zC, i64_w, i32_w]
              rfl
            refine pure_ (i := 4) (N := some 18) (v := ?_) (a' := ?_) #[true,true,true,true,true,false,false,false,false,false,false,false,false,false,false,false,false,false,false,false,false,false,false,false,false,false,false,false,false,false,false,false,false,false,false,false,false] rfl rfl (by kernel_rfl) (fun _ _ _ h => h) (Or.inl ⟨by rfl, ?_⟩) ?_ ?_
            rotate_left
            · intro w'
              go_simp
              with_reducible rfl
            rotate_left
            · simp only [Act.put, zA, zB, zC, i64_w, i32_w]
              rfl
            refine pure_ (i := 5) (N := some 19) (v := ?_) (a' := ?_) #[true,true,true,true,true,true,false,false,false,false,false,false,false,false,false,false,false,false,false,false,false,false,false,false,false,false,false,false,false,false,false,false,false,false,false,false,false] rfl rfl (by kernel_rfl) (fun _ _ _ h => h) (Or.inl ⟨by rfl, ?_⟩) ?_ ?_
            rotate_left
            · intro w'
              go_simp
              with_reducible rfl
            rotate_left
            · simp only [Act.put, zA, zB, zC, i64_w, i32_w]
              rfl
            refine pure_ (i := 6) (N := some 20) (v := ?_) (a' := ?_) #[true,true,true,true,true,true,true,false,false,false,false,false,false,false,false,false,false,false,false,false,false,false,false,false,false,false,false,false,false,false,false,false,false,false,false,false,false] rfl rfl (by kernel_rfl) (fun _ _ _ h => h) (Or.inl ⟨by rfl, ?_⟩) ?_ ?_
            rotate_left
            · intro w'
              go_simp
              with_reducible rfl
            rotate_left
            · simp only [Act.put, zA, zB, zC, i64_w, i32_w]
              rfl
            refine pure_ (i := 7) (N := some 21) (v := ?_) (a' := ?_) #[true,true,true,true,true,true,true,true,false,false,false,false,false,false,false,false,false,false,false,false,false,false,false,false,false,false,false,false,false,false,false,false,false,false,false,false,false] rfl rfl (by kernel_rfl) (fun _ _ _ h => h) (Or.inl ⟨by rfl, ?_⟩) ?_ ?_
            rotate_left
            · intro w'
              go_simp
              with_reducible rfl
            rotate_left
            · simp only [Act.put, zA, zB, zC, i64_w, i32_w]
              rfl
            refine pure_ (i := 8) (N := some 22) (v := ?_) (a' := ?_) #[true,true,true,true,true,true,true,true,true,false,false,false,false,false,false,false,false,false,false,false,false,false,false,false,false,false,false,false,false,false,false,false,false,false,false,false,false] rfl rfl (by kernel_rfl) (fun _ _ _ h => h) (Or.inl ⟨by rfl, ?_⟩) ?_ ?_
            rotate_left
            · intro w'
              go_simp
              with_reducible rfl
            rotate_left
            · simp only [Act.put, zA, zB, zC, i64_w, i32_w]
              rfl
            refine pure_ (i := 10) (N := some 24) (v := ?_) (a' := ?_) #[true,true,true,true,true,true,true,true,true,false,true,false,false,false,false,false,false,false,false,false,false,false,false,false,false,false,false,false,false,false,false,false,false,false,false,false,false] rfl rfl (by kernel_rfl) (fun _ _ _ h => h) (Or.inl ⟨by rfl, ?_⟩) ?_ ?_
            rotate_left
            · intro w'
              go_simp
              with_reducible rfl
            rotate_left
            · simp only [Act.put, zA, zB, zC, i64_w, i32_w]
              rfl
            refine take_ (i := 9) (N := some 23) (v := ?_) (a' := ?_) #[true,true,true,true,true,true,true,true,true,true,true,false,false,false,false,false,false,false,false,false,false,false,false,false,false,false,false,false,false,false,false,false,false,false,false,false,false] rfl rfl (by kernel_rfl) (fun _ _ _ h => h) (Or.inl ⟨by rfl, ?_⟩) hHeld ?_ ?_
            rotate_left
            · intro w' s0
              go_simp
              with_reducible rfl
            rotate_left
            · simp only [Act.put, zA, zB, zC, i64_w, i32_w]
              rfl
            refine pure_ (i := 11) (N := some 25) (v := ?_) (a' := ?_) #[true,true,true,true,true,true,true,true,true,true,true,true,false,false,false,false,false,false,false,false,false,false,false,false,false,false,false,false,false,false,false,false,false,false,false,false,false] rfl rfl (by kernel_rfl) (fun _ _ _ h => h) (Or.inl ⟨by rfl, ?_⟩) ?_ ?_
            rotate_left
            · intro w'
              go_simp
              with_reducible rfl
            rotate_left
            · simp only [Act.put, zA, zB, zC, i64_w, i32_w]
              rfl
            refine pure_ (i := 12) (N := some 26) (v := ?_) (a' := ?_) #[true,true,true,true,true,true,true,true,true,true,true,true,true,false,false,false,false,false,false,false,false,false,false,false,false,false,false,false,false,false,false,false,false,false,false,false,false] rfl rfl (by kernel_rfl) (fun _ _ _ h => h) (Or.inl ⟨by rfl, ?_⟩) ?_ ?_
            rotate_left
            · intro w'
              go_simp
              with_reducible rfl
            rotate_left
            · simp only [Act.put, zA, zB, zC, i64_w, i32_w]
              rfl
            refine pure_ (i := 13) (N := some 27) (v := ?_) (a' := ?_) #[true,true,true,true,true,true,true,true,true,true,true,true,true,true,false,false,false,false,false,false,false,false,false,false,false,false,false,false,false,false,false,false,false,false,false,false,false] rfl rfl (by kernel_rfl) (fun _ _ _ h => h) (Or.inl ⟨by rfl, ?_⟩) ?_ ?_
            rotate_left
            · intro w'
              go_simp
              with_reducible rfl
            rotate_left
            · simp only [Act.put, zA, zB, zC, i64_w, i32_w]
              rfl
            refine pure_ (i := 14) (N := some 28) (v := ?_) (a' := ?_) #[true,true,true,true,true,true,true,true,true,true,true,true,true,true,true,false,false,false,false,false,false,false,false,false,false,false,false,false,false,false,false,false,false,false,false,false,false] rfl rfl (by kernel_rfl) (fun _ _ _ h => h) (Or.inl ⟨by rfl, ?_⟩) ?_ ?_
            rotate_left
            · intro w'
              go_simp
              with_reducible rfl
            rotate_left
            · simp only [Act.put, zA, zB, zC, i64_w, i32_w]
              rfl
            refine pure_ (i := 15) (N := some 29) (v := ?_) (a' := ?_) #[true,true,true,true,true,true,true,true,true,true,true,true,true,true,true,true,false,false,false,false,false,false,false,false,false,false,false,false,false,false,false,false,false,false,false,false,false] rfl rfl (by kernel_rfl) (fun _ _ _ h => h) (Or.inl ⟨by rfl, ?_⟩) ?_ ?_
            rotate_left
            · intro w'
              go_simp
              with_reducible rfl
            rotate_left
            · simp only [Act.put, zA, zB, zC, i64_w, i32_w]
              rfl
            refine pure_ (i := 16) (N := some 30) (v := ?_) (a' := ?_) #[true,true,true,true,true,true,true,true,true,true,true,true,true,true,true,true,true,false,false,false,false,false,false,false,false,false,false,false,false,false,false,false,false,false,false,false,false] rfl rfl (by kernel_rfl) (fun _ _ _ h => h) (Or.inl ⟨by rfl, ?_⟩) ?_ ?_
            rotate_left
            · intro w'
              go_simp
              with_reducible rfl
            rotate_left
            · simp only [Act.put, zA, zB, zC, i64_w, i32_w]
              rfl
            refine pure_ (i := 18) (N := some 32) (v := ?_) (a' := ?_) #[true,true,true,true,true,true,true,true,true,true,true,true,true,true,true,true,true,false,true,false,false,false,false,false,false,false,false,false,false,false,false,false,false,false,false,false,false] rfl rfl (by kernel_rfl) (fun _ _ _ h => h) (Or.inl ⟨by rfl, ?_⟩) ?_ ?_
            rotate_left
            · intro w'
              go_simp
              with_reducible rfl
            rotate_left
            · simp only [Act.put, zA, zB, zC, i64_w, i32_w]
              rfl
            refine take_ (i := 17) (N := some 31) (v := ?_) (a' := ?_) #[true,true,true,true,true,true,true,true,true,true,true,true,true,true,true,true,true,true,true,false,false,false,false,false,false,false,false,false,false,false,false,false,false,false,false,false,false] rfl rfl (by kernel_rfl) (fun _ _ _ h => h) (Or.inl ⟨by rfl, ?_⟩) hHeld ?_ ?_
            rotate_left
            · intro w' s0
              go_simp
              with_reducible rfl
            rotate_left
            · simp only [Act.put, zA, zB, zC, i64_w, i32_w]
              rfl
            refine pure_ (i := 19) (N := some 33) (v := ?_) (a' := ?_) #[true,true,true,true,true,true,true,true,true,true,true,true,true,true,true,true,true,true,true,true,false,false,false,false,false,false,false,false,false,false,false,false,false,false,false,false,false] rfl rfl (by kernel_rfl) (fun _ _ _ h => h) (Or.inl ⟨by rfl, ?_⟩) ?_ ?_
            rotate_left
            · intro w'
              go_simp
              with_reducible rfl
            rotate_left
            · simp only [Act.put, zA, zB, zC, i64_w, i32_w]
              rfl
            refine pure_ (i := 20) (N := some 34) (v := ?_) (a' := ?_) #[true,true,true,true,true,true,true,true,true,true,true,true,true,true,true,true,true,true,true,true,true,false,false,false,false,false,false,false,false,false,false,false,false,false,false,false,false] rfl rfl (by kernel_rfl) (fun _ _ _ h => h) (Or.inl ⟨by rfl, ?_⟩) ?_ ?_
            rotate_left
            · intro w'
              go_simp
              with_reducible rfl
            rotate_left
            · simp only [Act.put, zA, zB, zC, i64_w, i32_w]
              rfl
            refine pure_ (i := 21) (N := some 35) (v := ?_) (a' := ?_) #[true,true,true,true,true,true,true,true,true,true,true,true,true,true,true,true,true,true,true,true,true,true,false,false,false,false,false,false,false,false,false,false,false,false,false,false,false] rfl rfl (by kernel_rfl) (fun _ _ _ h => h) (Or.inl ⟨by rfl, ?_⟩) ?_ ?_
            rotate_left
            · intro w'
              go_simp
              with_reducible rfl
            rotate_left
            · simp only [Act.put, zA, zB, zC, i64_w, i32_w]
              rfl
            refine pure_ (i := 22) (N := some 36) (v := undef) (a' := ?_) #[true,true,true,true,true,true,true,true,true,true,true,true,true,true,true,true,true,true,true,true,true,true,true,false,false,false,false,false,false,false,false,false,false,false,false,false,false] rfl rfl (by kernel_rfl) (fun _ _ _ h => h) (Or.inr ⟨by rfl, rfl⟩) ?_ ?_
            rotate_left
            · simp only [Act.put, zA, zB, zC, i64_w, i32_w]
              rfl
            refine pure_ (i := 23) (N := some 37) (v := undef) (a' := ?_) #[true,true,true,true,true,true,true,true,true,true,true,true,true,true,true,true,true,true,true,true,true,true,true,true,false,false,false,false,false,false,false,false,false,false,false,false,false] rfl rfl (by kernel_rfl) (fun _ _ _ h => h) (Or.inr ⟨by rfl, rfl⟩) ?_ ?_
            rotate_left
            · simp only [Act.put, zA, zB, zC, i64_w, i32_w]
              rfl
            refine pure_ (i := 24) (N := some 38) (v := undef) (a' := ?_) #[true,true,true,true,true,true,true,true,true,true,true,true,true,true,true,true,true,true,true,true,true,true,true,true,true,false,false,false,false,false,false,false,false,false,false,false,false] rfl rfl (by kernel_rfl) (fun _ _ _ h => h) (Or.inr ⟨by rfl, rfl⟩) ?_ ?_
            rotate_left
            · simp only [Act.put, zA, zB, zC, i64_w, i32_w]
              rfl
            refine pure_ (i := 25) (N := some 39) (v := undef) (a' := ?_) #[true,true,true,true,true,true,true,true,true,true,true,true,true,true,true,true,true,true,true,true,true,true,true,true,true,true,false,false,false,false,false,false,false,false,false,false,false] rfl rfl (by kernel_rfl) (fun _ _ _ h => h) (Or.inr ⟨by rfl, rfl⟩) ?_ ?_
            rotate_left
            · simp only [Act.put, zA, zB, zC, i64_w, i32_w]
              rfl
            refine pure_ (i := 26) (N := some 40) (v := undef) (a' := ?_) #[true,true,true,true,true,true,true,true,true,true,true,true,true,true,true,true,true,true,true,true,true,true,true,true,true,true,true,false,false,false,false,false,false,false,false,false,false] rfl rfl (by kernel_rfl) (fun _ _ _ h => h) (Or.inr ⟨by rfl, rfl⟩) ?_ ?_
            rotate_left
            · simp only [Act.put, zA, zB, zC, i64_w, i32_w]
              rfl
            refine pure_ (i := 27) (N := some 41) (v := undef) (a' := ?_) #[true,true,true,true,true,true,true,true,true,true,true,true,true,true,true,true,true,true,true,true,true,true,true,true,true,true,true,true,false,false,false,false,false,false,false,false,false] rfl rfl (by kernel_rfl) (fun _ _ _ h => h) (Or.inr ⟨by rfl, rfl⟩) ?_ ?_
            rotate_left
            · simp only [Act.put, zA, zB, zC, i64_w, i32_w]
              rfl
            refine pure_ (i := 28) (N := some 42) (v := undef) (a' := ?_) #[true,true,true,true,true,true,true,true,true,true,true,true,true,true,true,true,true,true,true,true,true,true,true,true,true,true,true,true,true,false,false,false,false,false,false,false,false] rfl rfl (by kernel_rfl) (fun _ _ _ h => h) (Or.inr ⟨by rfl, rfl⟩) ?_ ?_
            rotate_left
            · simp only [Act.put, zA, zB, zC, i64_w, i32_w]
              rfl
            refine pure_ (i := 29) (N := some 43) (v := undef) (a' := ?_) #[true,true,true,true,true,true,true,true,true,true,true,true,true,true,true,true,true,true,true,true,true,true,true,true,true,true,true,true,true,true,false,false,false,false,false,false,false] rfl rfl (by kernel_rfl) (fun _ _ _ h => h) (Or.inr ⟨by rfl, rfl⟩) ?_ ?_
            rotate_left
            · simp only [Act.put, zA, zB, zC, i64_w, i32_w]
              rfl
            refine pure_ (i := 30) (N := some 44) (v := undef) (a' := ?_) #[true,true,true,true,true,true,true,true,true,true,true,true,true,true,true,true,true,true,true,true,true,true,true,true,true,true,true,true,true,true,true,false,false,false,false,false,false] rfl rfl (by kernel_rfl) (fun _ _ _ h => h) (Or.inr ⟨by rfl, rfl⟩) ?_ ?_
            rotate_left
            · simp only [Act.put, zA, zB, zC, i64_w, i32_w]
              rfl
            refine pure_ (i := 31) (N := some 45) (v := undef) (a' := ?_) #[true,true,true,true,true,true,true,true,true,true,true,true,true,true,true,true,true,true,true,true,true,true,true,true,true,true,true,true,true,true,true,true,false,false,false,false,false] rfl rfl (by kernel_rfl) (fun _ _ _ h => h) (Or.inr ⟨by rfl, rfl⟩) ?_ ?_
            rotate_left
            · simp only [Act.put, zA, zB, zC, i64_w, i32_w]
              rfl
            refine pure_ (i := 32) (N := some 46) (v := undef) (a' := ?_) #[true,true,true,true,true,true,true,true,true,true,true,true,true,true,true,true,true,true,true,true,true,true,true,true,true,true,true,true,true,true,true,true,true,false,false,false,false] rfl rfl (by kernel_rfl) (fun _ _ _ h => h) (Or.inr ⟨by rfl, rfl⟩) ?_ ?_
            rotate_left
            · simp only [Act.put, zA, zB, zC, i64_w, i32_w]
              rfl
            refine pure_ (i := 33) (N := some 47) (v := undef) (a' := ?_) #[true,true,true,true,true,true,true,true,true,true,true,true,true,true,true,true,true,true,true,true,true,true,true,true,true,true,true,true,true,true,true,true,true,true,false,false,false] rfl rfl (by kernel_rfl) (fun _ _ _ h => h) (Or.inr ⟨by rfl, rfl⟩) ?_ ?_
            rotate_left
            · simp only [Act.put, zA, zB, zC, i64_w, i32_w]
              rfl
            refine pure_ (i := 34) (N := some 48) (v := undef) (a' := ?_) #[true,true,true,true,true,true,true,true,true,true,true,true,true,true,true,true,true,true,true,true,true,true,true,true,true,true,true,true,true,true,true,true,true,true,true,false,false] rfl rfl (by kernel_rfl) (fun _ _ _ h => h) (Or.inr ⟨by rfl, rfl⟩) ?_ ?_
            rotate_left
            · simp only [Act.put, zA, zB, zC, i64_w, i32_w]
              rfl
            refine pure_ (i := 35) (N := some 49) (v := undef) (a' := ?_) #[true,true,true,true,true,true,true,true,true,true,true,true,true,true,true,true,true,true,true,true,true,true,true,true,true,true,true,true,true,true,true,true,true,true,true,true,false] rfl rfl (by kernel_rfl) (fun _ _ _ h => h) (Or.inr ⟨by rfl, rfl⟩) ?_ ?_
            rotate_left
            · simp only [Act.put, zA, zB, zC, i64_w, i32_w]
              rfl
            refine pure_ (i := 36) (N := some 50) (v := ?_) (a' := ?_) #[true,true,true,true,true,true,true,true,true,true,true,true,true,true,true,true,true,true,true,true,true,true,true,true,true,true,true,true,true,true,true,true,true,true,true,true,true] rfl rfl (by kernel_rfl) (fun _ _ _ h => h) (Or.inl ⟨by rfl, ?_⟩) ?_ ?_
            rotate_left
            · intro w'
              go_simp
              with_reducible rfl
            rotate_left
            · simp only [Act.put, zA, zB, zC, i64_w, i32_w]
              rfl
            refine done_ (by kernel_rfl) ?_
            go_wp2
            go_ret
            rw [HG.out, HFIN.out]
            exact ⟨rfl, below_drew HBR.out⟩
          · have hd5 : (x == (i : Int)) = false := beq_eq_false_iff_ne.2 h3
            have HFIN : Aside0 ((decide (-1 < x) && (decide (x < (n : Int)) && (decide (x ≠ (i : Int)) && goNeeds n i x (ns.drop (k + 1))))) = goNeeds n i (lastOf ns (k + 1)) (ns.drop (k + 1))) := ⟨by rw [HL.out, decide_eq_true (p := x ≠ (i : Int)) h3, decide_eq_true (p := x < (n : Int)) (by omega), decide_eq_true (show -1 < x by omega)]; rfl⟩
            have HP : Aside0 (0 < k + 1 → 0 ≤ lastOf ns (k + 1)) := ⟨fun _ => by rw [HL.out]; omega⟩
            clear h1 h2 h3
            go_wp2
            refine start_ (n := 37) (S := fun w' => w'.cell? (ad.add k) = some (.int .i64 x)) (ds := []) #[false,false,false,false,false,false,false,false,false,false,false,false,false,false,false,false,false,false,false,false,false,false,false,false,false,false,false,false,false,false,false,false,false,false,false,false,false] (by kernel_rfl) rfl rfl ((by go_keep)) (fun hHeld => ?_)
            refine pure_ (i := 0) (N := some 14) (v := ?_) (a' := ?_) #[true,false,false,false,false,false,false,false,false,false,false,false,false,false,false,false,false,false,false,false,false,false,false,false,false,false,false,false,false,false,false,false,false,false,false,false,false] rfl rfl (by kernel_rfl) (fun _ _ _ h => h) (Or.inl ⟨by rfl, ?_⟩) ?_ ?_
            rotate_left
            · intro w'
              go_simp
              with_reducible rfl
            rotate_left
            · simp only [Act.put, zA, zB, zC, i64_w, i32_w]
              rfl
            refine pure_ (i := 1) (N := some 15) (v := ?_) (a' := ?_) #[true,true,false,false,false,false,false,false,false,false,false,false,false,false,false,false,false,false,false,false,false,false,false,false,false,false,false,false,false,false,false,false,false,false,false,false,false] rfl rfl (by kernel_rfl) (fun _ _ _ h => h) (Or.inl ⟨by rfl, ?_⟩) ?_ ?_
            rotate_left
            · intro w'
              go_simp
              with_reducible rfl
            rotate_left
            · simp only [Act.put, zA, zB, zC, i64_w, i32_w]
              rfl
            refine pure_ (i := 2) (N := some 16) (v := ?_) (a' := ?_) #[true,true,true,false,false,false,false,false,false,false,false,false,false,false,false,false,false,false,false,false,false,false,false,false,false,false,false,false,false,false,false,false,false,false,false,false,false] rfl rfl (by kernel_rfl) (fun _ _ _ h => h) (Or.inl ⟨by rfl, ?_⟩) ?_ ?_
            rotate_left
            · intro w'
              go_simp
              with_reducible rfl
            rotate_left
            · simp only [Act.put, zA, zB, zC, i64_w, i32_w]
              rfl
            refine take_ (i := 3) (N := some 17) (v := ?_) (a' := ?_) #[true,true,true,true,false,false,false,false,false,false,false,false,false,false,false,false,false,false,false,false,false,false,false,false,false,false,false,false,false,false,false,false,false,false,false,false,false] rfl rfl (by kernel_rfl) (fun _ _ _ h => h) (Or.inl ⟨by rfl, ?_⟩) hHeld ?_ ?_
            rotate_left
            · intro w' s0
              go_simp
              with_reducible rfl
            rotate_left
            · simp only [Act.put, zA, zB, zC, i64_w, i32_w]
              rfl
            refine pure_ (i := 4) (N := some 18) (v := ?_) (a' := ?_) #[true,true,true,true,true,false,false,false,false,false,false,false,false,false,false,false,false,false,false,false,false,false,false,false,false,false,false,false,false,false,false,false,false,false,false,false,false] rfl rfl (by kernel_rfl) (fun _ _ _ h => h) (Or.inl ⟨by rfl, ?_⟩) ?_ ?_
            rotate_left
            · intro w'
              go_simp
              with_reducible rfl
            rotate_left
            · simp only [Act.put, zA, zB, zC, i64_w, i32_w]
              rfl
            refine pure_ (i := 5) (N := some 19) (v := ?_) (a' := ?_) #[true,true,true,true,true,true,false,false,false,false,false,false,false,false,false,false,false,false,false,false,false,false,false,false,false,false,false,false,false,false,false,false,false,false,false,false,false] rfl rfl (by kernel_rfl) (fun _ _ _ h => h) (Or.inl ⟨by rfl, ?_⟩) ?_ ?_
            rotate_left
            · intro w'
              go_simp
              with_reducible rfl
            rotate_left
            · simp only [Act.put, zA, zB, zC, i64_w, i32_w]
              rfl
            refine pure_ (i := 6) (N := some 20) (v := ?_) (a' := ?_) #[true,true,true,true,true,true,true,false,false,false,false,false,false,false,false,false,false,false,false,false,false,false,false,false,false,false,false,false,false,false,false,false,false,false,false,false,false] rfl rfl (by kernel_rfl) (fun _ _ _ h => h) (Or.inl ⟨by rfl, ?_⟩) ?_ ?_
            rotate_left
            · intro w'
              go_simp
              with_reducible rfl
            rotate_left
            · simp only [Act.put, zA, zB, zC, i64_w, i32_w]
              rfl
            refine pure_ (i := 7) (N := some 21) (v := ?_) (a' := ?_) #[true,true,true,true,true,true,true,true,false,false,false,false,false,false,false,false,false,false,false,false,false,false,false,false,false,false,false,false,false,false,false,false,false,false,false,false,false] rfl rfl (by kernel_rfl) (fun _ _ _ h => h) (Or.inl ⟨by rfl, ?_⟩) ?_ ?_
            rotate_left
            · intro w'
              go_simp
              with_reducible rfl
            rotate_left
            · simp only [Act.put, zA, zB, zC, i64_w, i32_w]
              rfl
            refine pure_ (i := 8) (N := some 22) (v := ?_) (a' := ?_) #[true,true,true,true,true,true,true,true,true,false,false,false,false,false,false,false,false,false,false,false,false,false,false,false,false,false,false,false,false,false,false,false,false,false,false,false,false] rfl rfl (by kernel_rfl) (fun _ _ _ h => h) (Or.inl ⟨by rfl, ?_⟩) ?_ ?_
            rotate_left
            · intro w'
              go_simp
              with_reducible rfl
            rotate_left
            · simp only [Act.put, zA, zB, zC, i64_w, i32_w]
              rfl
            refine pure_ (i := 10) (N := some 24) (v := ?_) (a' := ?_) #[true,true,true,true,true,true,true,true,true,false,true,false,false,false,false,false,false,false,false,false,false,false,false,false,false,false,false,false,false,false,false,false,false,false,false,false,false] rfl rfl (by kernel_rfl) (fun _ _ _ h => h) (Or.inl ⟨by rfl, ?_⟩) ?_ ?_
            rotate_left
            · intro w'
              go_simp
              with_reducible rfl
            rotate_left
            · simp only [Act.put, zA, zB, zC, i64_w, i32_w]
              rfl
            refine take_ (i := 9) (N := some 23) (v := ?_) (a' := ?_) #[true,true,true,true,true,true,true,true,true,true,true,false,false,false,false,false,false,false,false,false,false,false,false,false,false,false,false,false,false,false,false,false,false,false,false,false,false] rfl rfl (by kernel_rfl) (fun _ _ _ h => h) (Or.inl ⟨by rfl, ?_⟩) hHeld ?_ ?_
            rotate_left
            · intro w' s0
              go_simp
              with_reducible rfl
            rotate_left
            · simp only [Act.put, zA, zB, zC, i64_w, i32_w]
              rfl
            refine pure_ (i := 11) (N := some 25) (v := ?_) (a' := ?_) #[true,true,true,true,true,true,true,true,true,true,true,true,false,false,false,false,false,false,false,false,false,false,false,false,false,false,false,false,false,false,false,false,false,false,false,false,false] rfl rfl (by kernel_rfl) (fun _ _ _ h => h) (Or.inl ⟨by rfl, ?_⟩) ?_ ?_
            rotate_left
            · intro w'
              go_simp
              with_reducible rfl
            rotate_left
            · simp only [Act.put, zA, zB, zC, i64_w, i32_w]
              rfl
            refine pure_ (i := 12) (N := some 26) (v := ?_) (a' := ?_) #[true,true,true,true,true,true,true,true,true,true,true,true,true,false,false,false,false,false,false,false,false,false,false,false,false,false,false,false,false,false,false,false,false,false,false,false,false] rfl rfl (by kernel_rfl) (fun _ _ _ h => h) (Or.inl ⟨by rfl, ?_⟩) ?_ ?_
            rotate_left
            · intro w'
              go_simp
              with_reducible rfl
            rotate_left
            · simp only [Act.put, zA, zB, zC, i64_w, i32_w]
              rfl
            refine pure_ (i := 13) (N := some 27) (v := ?_) (a' := ?_) #[true,true,true,true,true,true,true,true,true,true,true,true,true,true,false,false,false,false,false,false,false,false,false,false,false,false,false,false,false,false,false,false,false,false,false,false,false] rfl rfl (by kernel_rfl) (fun _ _ _ h => h) (Or.inl ⟨by rfl, ?_⟩) ?_ ?_
            rotate_left
            · intro w'
              go_simp
              with_reducible rfl
            rotate_left
            · simp only [Act.put, zA, zB, zC, i64_w, i32_w]
              rfl
            refine pure_ (i := 14) (N := some 28) (v := ?_) (a' := ?_) #[true,true,true,true,true,true,true,true,true,true,true,true,true,true,true,false,false,false,false,false,false,false,false,false,false,false,false,false,false,false,false,false,false,false,false,false,false] rfl rfl (by kernel_rfl) (fun _ _ _ h => h) (Or.inl ⟨by rfl, ?_⟩) ?_ ?_
            rotate_left
            · intro w'
              go_simp
              with_reducible rfl
            rotate_left
            · simp only [Act.put, zA, zB, zC, i64_w, i32_w]
              rfl
            refine pure_ (i := 15) (N := some 29) (v := ?_) (a' := ?_) #[true,true,true,true,true,true,true,true,true,true,true,true,true,true,true,true,false,false,false,false,false,false,false,false,false,false,false,false,false,false,false,false,false,false,false,false,false] rfl rfl (by kernel_rfl) (fun _ _ _ h => h) (Or.inl ⟨by rfl, ?_⟩) ?_ ?_
            rotate_left
            · intro w'
              go_simp
              with_reducible rfl
            rotate_left
            · simp only [Act.put, zA, zB, zC, i64_w, i32_w]
              rfl
            refine pure_ (i := 16) (N := some 30) (v := ?_) (a' := ?_) #[true,true,true,true,true,true,true,true,true,true,true,true,true,true,true,true,true,false,false,false,false,false,false,false,false,false,false,false,false,false,false,false,false,false,false,false,false] rfl rfl (by kernel_rfl) (fun _ _ _ h => h) (Or.inl ⟨by rfl, ?_⟩) ?_ ?_
            rotate_left
            · intro w'
              go_simp
              with_reducible rfl
            rotate_left
            · simp only [Act.put, zA, zB, zC, i64_w, i32_w]
              rfl
            refine pure_ (i := 18) (N := some 32) (v := ?_) (a' := ?_) #[true,true,true,true,true,true,true,true,true,true,true,true,true,true,true,true,true,false,true,false,false,false,false,false,false,false,false,false,false,false,false,false,false,false,false,false,false] rfl rfl (by kernel_rfl) (fun _ _ _ h => h) (Or.inl ⟨by rfl, ?_⟩) ?_ ?_
            rotate_left
            · intro w'
              go_simp
              with_reducible rfl
            rotate_left
            · simp only [Act.put, zA, zB, zC, i64_w, i32_w]
              rfl
            refine take_ (i := 17) (N := some 31) (v := ?_) (a' := ?_) #[true,true,true,true,true,true,true,true,true,true,true,true,true,true,true,true,true,true,true,false,false,false,false,false,false,false,false,false,false,false,false,false,false,false,false,false,false] rfl rfl (by kernel_rfl) (fun _ _ _ h => h) (Or.inl ⟨by rfl, ?_⟩) hHeld ?_ ?_
            rotate_left
            · intro w' s0
              go_simp
              with_reducible rfl
            rotate_left
            · simp only [Act.put, zA, zB, zC, i64_w, i32_w]
              rfl
            refine pure_ (i := 19) (N := some 33) (v := ?_) (a' := ?_) #[true,true,true,true,true,true,true,true,true,true,true,true,true,true,true,true,true,true,true,true,false,false,false,false,false,false,false,false,false,false,false,false,false,false,false,false,false] rfl rfl (by kernel_rfl) (fun _ _ _ h => h) (Or.inl ⟨by rfl, ?_⟩) ?_ ?_
            rotate_left
            · intro w'
              go_simp
              with_reducible rfl
            rotate_left
            · simp only [Act.put, zA, zB, zC, i64_w, i32_w]
              rfl
            refine pure_ (i := 20) (N := some 34) (v := ?_) (a' := ?_) #[true,true,true,true,true,true,true,true,true,true,true,true,true,true,true,true,true,true,true,true,true,false,false,false,false,false,false,false,false,false,false,false,false,false,false,false,false] rfl rfl (by kernel_rfl) (fun _ _ _ h => h) (Or.inl ⟨by rfl, ?_⟩) ?_ ?_
            rotate_left
            · intro w'
              go_simp
              with_reducible rfl
            rotate_left
            · simp only [Act.put, zA, zB, zC, i64_w, i32_w]
              rfl
            refine pure_ (i := 21) (N := some 35) (v := ?_) (a' := ?_) #[true,true,true,true,true,true,true,true,true,true,true,true,true,true,true,true,true,true,true,true,true,true,false,false,false,false,false,false,false,false,false,false,false,false,false,false,false] rfl rfl (by kernel_rfl) (fun _ _ _ h => h) (Or.inl ⟨by rfl, ?_⟩) ?_ ?_
            rotate_left
            · intro w'
              go_simp
              with_reducible rfl
            rotate_left
            · simp only [Act.put, zA, zB, zC, i64_w, i32_w]
              rfl
            refine pure_ (i := 22) (N := some 36) (v := ?_) (a' := ?_) #[true,true,true,true,true,true,true,true,true,true,true,true,true,true,true,true,true,true,true,true,true,true,true,false,false,false,false,false,false,false,false,false,false,false,false,false,false] rfl rfl (by kernel_rfl) (fun _ _ _ h => h) (Or.inl ⟨by rfl, ?_⟩) ?_ ?_
            rotate_left
            · intro w'
              go_simp
              with_reducible rfl
            rotate_left
            · simp only [Act.put, zA, zB, zC, i64_w, i32_w]
              rfl
            refine pure_ (i := 23) (N := some 37) (v := ?_) (a' := ?_) #[true,true,true,true,true,true,true,true,true,true,true,true,true,true,true,true,true,true,true,true,true,true,true,true,false,false,false,false,false,false,false,false,false,false,false,false,false] rfl rfl (by kernel_rfl) (fun _ _ _ h => h) (Or.inl ⟨by rfl, ?_⟩) ?_ ?_
            rotate_left
            · intro w'
              go_simp
              with_reducible rfl
            rotate_left
            · simp only [Act.put, zA, zB, zC, i64_w, i32_w]
              rfl
            refine pure_ (i := 24) (N := some 38) (v := ?_) (a' := ?_) #[true,true,true,true,true,true,true,true,true,true,true,true,true,true,true,true,true,true,true,true,true,true,true,true,true,false,false,false,false,false,false,false,false,false,false,false,false] rfl rfl (by kernel_rfl) (fun _ _ _ h => h) (Or.inl ⟨by rfl, ?_⟩) ?_ ?_
            rotate_left
            · intro w'
              go_simp
              with_reducible rfl
            rotate_left
            · simp only [Act.put, zA, zB, zC, i64_w, i32_w]
              rfl
            refine pure_ (i := 25) (N := some 39) (v := undef) (a' := ?_) #[true,true,true,true,true,true,true,true,true,true,true,true,true,true,true,true,true,true,true,true,true,true,true,true,true,true,false,false,false,false,false,false,false,false,false,false,false] rfl rfl (by kernel_rfl) (fun _ _ _ h => h) (Or.inr ⟨by rfl, rfl⟩) ?_ ?_
            rotate_left
            · simp only [Act.put, zA, zB, zC, i64_w, i32_w]
              rfl
            refine pure_ (i := 26) (N := some 40) (v := undef) (a' := ?_) #[true,true,true,true,true,true,true,true,true,true,true,true,true,true,true,true,true,true,true,true,true,true,true,true,true,true,true,false,false,false,false,false,false,false,false,false,false] rfl rfl (by kernel_rfl) (fun _ _ _ h => h) (Or.inr ⟨by rfl, rfl⟩) ?_ ?_
            rotate_left
            · simp only [Act.put, zA, zB, zC, i64_w, i32_w]
              rfl
            refine pure_ (i := 27) (N := some 41) (v := undef) (a' := ?_) #[true,true,true,true,true,true,true,true,true,true,true,true,true,true,true,true,true,true,true,true,true,true,true,true,true,true,true,true,false,false,false,false,false,false,false,false,false] rfl rfl (by kernel_rfl) (fun _ _ _ h => h) (Or.inr ⟨by rfl, rfl⟩) ?_ ?_
            rotate_left
            · simp only [Act.put, zA, zB, zC, i64_w, i32_w]
              rfl
            refine pure_ (i := 28) (N := some 42) (v := undef) (a' := ?_) #[true,true,true,true,true,true,true,true,true,true,true,true,true,true,true,true,true,true,true,true,true,true,true,true,true,true,true,true,true,false,false,false,false,false,false,false,false] rfl rfl (by kernel_rfl) (fun _ _ _ h => h) (Or.inr ⟨by rfl, rfl⟩) ?_ ?_
            rotate_left
            · simp only [Act.put, zA, zB, zC, i64_w, i32_w]
              rfl
            refine pure_ (i := 29) (N := some 43) (v := undef) (a' := ?_) #[true,true,true,true,true,true,true,true,true,true,true,true,true,true,true,true,true,true,true,true,true,true,true,true,true,true,true,true,true,true,false,false,false,false,false,false,false] rfl rfl (by kernel_rfl) (fun _ _ _ h => h) (Or.inr ⟨by rfl, rfl⟩) ?_ ?_
            rotate_left
            · simp only [Act.put, zA, zB, zC, i64_w, i32_w]
              rfl
            refine pure_ (i := 30) (N := some 44) (v := undef) (a' := ?_) #[true,true,true,true,true,true,true,true,true,true,true,true,true,true,true,true,true,true,true,true,true,true,true,true,true,true,true,true,true,true,true,false,false,false,false,false,false] rfl rfl (by kernel_rfl) (fun _ _ _ h => h) (Or.inr ⟨by rfl, rfl⟩) ?_ ?_
            rotate_left
            · simp only [Act.put, zA, zB, zC, i64_w, i32_w]
              rfl
            refine pure_ (i := 31) (N := some 45) (v := undef) (a' := ?_) #[true,true,true,true,true,true,true,true,true,true,true,true,true,true,true,true,true,true,true,true,true,true,true,true,true,true,true,true,true,true,true,true,false,false,false,false,false] rfl rfl (by kernel_rfl) (fun _ _ _ h => h) (Or.inr ⟨by rfl, rfl⟩) ?_ ?_
            rotate_left
            · simp only [Act.put, zA, zB, zC, i64_w, i32_w]
              rfl
            refine pure_ (i := 32) (N := some 46) (v := undef) (a' := ?_) #[true,true,true,true,true,true,true,true,true,true,true,true,true,true,true,true,true,true,true,true,true,true,true,true,true,true,true,true,true,true,true,true,true,false,false,false,false] rfl rfl (by kernel_rfl) (fun _ _ _ h => h) (Or.inr ⟨by rfl, rfl⟩) ?_ ?_
            rotate_left
            · simp only [Act.put, zA, zB, zC, i64_w, i32_w]
              rfl
            refine pure_ (i := 33) (N := some 47) (v := undef) (a' := ?_) #[true,true,true,true,true,true,true,true,true,true,true,true,true,true,true,true,true,true,true,true,true,true,true,true,true,true,true,true,true,true,true,true,true,true,false,false,false] rfl rfl (by kernel_rfl) (fun _ _ _ h => h) (Or.inr ⟨by rfl, rfl⟩) ?_ ?_
            rotate_left
            · simp only [Act.put, zA, zB, zC, i64_w, i32_w]
              rfl
            refine pure_ (i := 34) (N := some 48) (v := undef) (a' := ?_) #[true,true,true,true,true,true,true,true,true,true,true,true,true,true,true,true,true,true,true,true,true,true,true,true,true,true,true,true,true,true,true,true,true,true,true,false,false] rfl rfl (by kernel_rfl) (fun _ _ _ h => h) (Or.inr ⟨by rfl, rfl⟩) ?_ ?_
            rotate_left
            · simp only [Act.put, zA, zB, zC, i64_w, i32_w]
              rfl
            refine pure_ (i := 35) (N := some 49) (v := ?_) (a' := ?_) #[true,true,true,true,true,true,true,true,true,true,true,true,true,true,true,true,true,true,true,true,true,true,true,true,true,true,true,true,true,true,true,true,true,true,true,true,false] rfl rfl (by kernel_rfl) (fun _ _ _ h => h) (Or.inl ⟨by rfl, ?_⟩) ?_ ?_
            rotate_left
            · intro w'
              go_simp
              with_reducible rfl
            rotate_left
            · simp only [Act.put, zA, zB, zC, i64_w, i32_w]
              rfl
            refine pure_ (i := 36) (N := some 50) (v := ?_) (a' := ?_) #[true,true,true,true,true,true,true,true,true,true,true,true,true,true,true,true,true,true,true,true,true,true,true,true,true,true,true,true,true,true,true,true,true,true,true,true,true] rfl rfl (by kernel_rfl) (fun _ _ _ h => h) (Or.inl ⟨by rfl, ?_⟩) ?_ ?_
            rotate_left
            · intro w'
              go_simp
              with_reducible rfl
            rotate_left
            · simp only [Act.put, zA, zB, zC, i64_w, i32_w]
              rfl
            refine done_ (by kernel_rfl) ?_
            go_wp2
            go_roundw
            case rel => exact ⟨k + 1, hlt, by go_num, by rw [HG.out]; exact HFIN.out, HP.out, below_drew HBR.out⟩
            case measure => simp [intOf]; omega
    · have hd6 : decide (0 < (k : Int)) = true := decide_eq_true (by omega)
      have hd6n : decide (0 < k) = true := decide_eq_true (by omega)
      obtain ⟨_, e, hy⟩ := int_at HK.out (i := k - 1) (by omega)
      cases e
      replace hy := cell_on HBR.out hy
      have hlast := lastOf_pos (by omega) hk
      have hp2 := hp (by omega)
      have hwk : wrap64 ((k : Int) - 1) = ((k - 1 : Nat) : Int) := by unfold wrap64; omega
      have hkl : k - 1 < ns.length := by omega
      rw [hlast] at HG hp2
      clear hl0 hp hlast hdrop
      generalize ns[k] = x at *
      generalize ns[k - 1] = y at *
      by_cases h1 : x < 0
      · have hd3 : decide (x < 0) = true := decide_eq_true h1
        have HFIN : Aside0 ((decide (y < x) && (decide (x < (n : Int)) && (decide (x ≠ (i : Int)) && goNeeds n i x (ns.drop (k + 1))))) = false) := ⟨by rw [decide_eq_false (by omega)]; rfl⟩
        clear h1
        go_wp2
        refine start_ (n := 37) (S := fun w' => w'.cell? (ad.add k) = some (.int .i64 x)) (ds := []) #[false,false,false,false,false,false,false,false,false,false,false,false,false,false,false,false,false,false,false,false,false,false,false,false,false,false,false,false,false,false,false,false,false,false,false,false,false] (by kernel_rfl) rfl rfl ((by go_keep)) (fun hHeld => ?_)
        refine pure_ (i := 0) (N := some 14) (v := ?_) (a' := ?_) #[true,false,false,false,false,false,false,false,false,false,false,false,false,false,false,false,false,false,false,false,false,false,false,false,false,false,false,false,false,false,false,false,false,false,false,false,false] rfl rfl (by kernel_rfl) (fun _ _ _ h => h) (Or.inl ⟨by rfl, ?_⟩) ?_ ?_
        rotate_left
        · intro w'
          go_simp
          with_reducible rfl
        rotate_left
        · simp only [Act.put, zA, zB, zC, i64_w, i32_w]
          rfl
        refine pure_ (i := 1) (N := some 15) (v := ?_) (a' := ?_) #[true,true,false,false,false,false,false,false,false,false,false,false,false,false,false,false,false,false,false,false,false,false,false,false,false,false,false,false,false,false,false,false,false,false,false,false,false] rfl rfl (by kernel_rfl) (fun _ _ _ h => h) (Or.inl ⟨by rfl, ?_⟩) ?_ ?_
        rotate_left
        · intro w'
          go_simp
          with_reducible rfl
        rotate_left
        · simp only [Act.put, zA, zB, zC, i64_w, i32_w]
          rfl
        refine pure_ (i := 2) (N := some 16) (v := ?_) (a' := ?_) #[true,true,true,false,false,false,false,false,false,false,false,false,false,false,false,false,false,false,false,false,false,false,false,false,false,false,false,false,false,false,false,false,false,false,false,false,false] rfl rfl (by kernel_rfl) (fun _ _ _ h => h) (Or.inl ⟨by rfl, ?_⟩) ?_ ?_
        rotate_left
        · intro w'
          go_simp
          with_reducible rfl
        rotate_left
        · simp only [Act.put, zA, zB, zC, i64_w, i32_w]
          rfl
        refine take_ (i := 3) (N := some 17) (v := ?_) (a' := ?_) #[true,true,true,true,false,false,false,false,false,false,false,false,false,false,false,false,false,false,false,false,false,false,false,false,false,false,false,false,false,false,false,false,false,false,false,false,false] rfl rfl (by kernel_rfl) (fun _ _ _ h => h) (Or.inl ⟨by rfl, ?_⟩) hHeld ?_ ?_
        rotate_left
        · intro w' s0
          go_simp
          with_reducible rfl
        rotate_left
        · simp only [Act.put, zA, zB, zC, i64_w, i32_w]
          rfl
        refine pure_ (i := 4) (N := some 18) (v := ?_) (a' := ?_) #[true,true,true,true,true,false,false,false,false,false,false,false,false,false,false,false,false,false,false,false,false,false,false,false,false,false,false,false,false,false,false,false,false,false,false,false,false] rfl rfl (by kernel_rfl) (fun _ _ _ h => h) (Or.inl ⟨by rfl, ?_⟩) ?_ ?_
        rotate_left
        · intro w'
          go_simp
          with_reducible rfl
        rotate_left
        · simp only [Act.put, zA, zB, zC, i64_w, i32_w]
          rfl
        refine pure_ (i := 5) (N := some 19) (v := ?_) (a' := ?_) #[true,true,true,true,true,true,false,false,false,false,false,false,false,false,false,false,false,false,false,false,false,false,false,false,false,false,false,false,false,false,false,false,false,false,false,false,false] rfl rfl (by kernel_rfl) (fun _ _ _ h => h) (Or.inl ⟨by rfl, ?_⟩) ?_ ?_
        rotate_left
        · intro w'
          go_simp
          with_reducible rfl
        rotate_left
        · simp only [Act.put, zA, zB, zC, i64_w, i32_w]
          rfl
        refine pure_ (i := 6) (N := some 20) (v := undef) (a' := ?_) #[true,true,true,true,true,true,true,false,false,false,false,false,false,false,false,false,false,false,false,false,false,false,false,false,false,false,false,false,false,false,false,false,false,false,false,false,false] rfl rfl (by kernel_rfl) (fun _ _ _ h => h) (Or.inr ⟨by rfl, rfl⟩) ?_ ?_
        rotate_left
        · simp only [Act.put, zA, zB, zC, i64_w, i32_w]
          rfl
        refine pure_ (i := 7) (N := some 21) (v := undef) (a' := ?_) #[true,true,true,true,true,true,true,true,false,false,false,false,false,false,false,false,false,false,false,false,false,false,false,false,false,false,false,false,false,false,false,false,false,false,false,false,false] rfl rfl (by kernel_rfl) (fun _ _ _ h => h) (Or.inr ⟨by rfl, rfl⟩) ?_ ?_
        rotate_left
        · simp only [Act.put, zA, zB, zC, i64_w, i32_w]
          rfl
        refine pure_ (i := 8) (N := some 22) (v := undef) (a' := ?_) #[true,true,true,true,true,true,true,true,true,false,false,false,false,false,false,false,false,false,false,false,false,false,false,false,false,false,false,false,false,false,false,false,false,false,false,false,false] rfl rfl (by kernel_rfl) (fun _ _ _ h => h) (Or.inr ⟨by rfl, rfl⟩) ?_ ?_
        rotate_left
        · simp only [Act.put, zA, zB, zC, i64_w, i32_w]
          rfl
        refine pure_ (i := 9) (N := some 23) (v := undef) (a' := ?_) #[true,true,true,true,true,true,true,true,true,true,false,false,false,false,false,false,false,false,false,false,false,false,false,false,false,false,false,false,false,false,false,false,false,false,false,false,false] rfl rfl (by kernel_rfl) (fun _ _ _ h => h) (Or.inr ⟨by rfl, rfl⟩) ?_ ?_
        rotate_left
        · simp only [Act.put, zA, zB, zC, i64_w, i32_w]
          rfl
        refine pure_ (i := 10) (N := some 24) (v := undef) (a' := ?_) #[true,true,true,true,true,true,true,true,true,true,true,false,false,false,false,false,false,false,false,false,false,false,false,false,false,false,false,false,false,false,false,false,false,false,false,false,false] rfl rfl (by kernel_rfl) (fun _ _ _ h => h) (Or.inr ⟨by rfl, rfl⟩) ?_ ?_
        rotate_left
        · simp only [Act.put, zA, zB, zC, i64_w, i32_w]
          rfl
        refine pure_ (i := 11) (N := some 25) (v := undef) (a' := ?_) #[true,true,true,true,true,true,true,true,true,true,true,true,false,false,false,false,false,false,false,false,false,false,false,false,false,false,false,false,false,false,false,false,false,false,false,false,false] rfl rfl (by kernel_rfl) (fun _ _ _ h => h) (Or.inr ⟨by rfl, rfl⟩) ?_ ?_
        rotate_left
        · simp only [Act.put, zA, zB, zC, i64_w, i32_w]
          rfl
        refine pure_ (i := 12) (N := some 26) (v := ?_) (a' := ?_) #[true,true,true,true,true,true,true,true,true,true,true,true,true,false,false,false,false,false,false,false,false,false,false,false,false,false,false,false,false,false,false,false,false,false,false,false,false] rfl rfl (by kernel_rfl) (fun _ _ _ h => h) (Or.inl ⟨by rfl, ?_⟩) ?_ ?_
        rotate_left
        · intro w'
          go_simp
          with_reducible rfl
        rotate_left
        · simp only [Act.put, zA, zB, zC, i64_w, i32_w]
          rfl
        refine pure_ (i := 13) (N := some 27) (v := ?_) (a' := ?_) #[true,true,true,true,true,true,true,true,true,true,true,true,true,true,false,false,false,false,false,false,false,false,false,false,false,false,false,false,false,false,false,false,false,false,false,false,false] rfl rfl (by kernel_rfl) (fun _ _ _ h => h) (Or.inl ⟨by rfl, ?_⟩) ?_ ?_
        rotate_left
        · intro w'
          go_simp
          with_reducible rfl
        rotate_left
        · simp only [Act.put, zA, zB, zC, i64_w, i32_w]
          rfl
        refine pure_ (i := 14) (N := some 28) (v := undef) (a' := ?_) #[true,true,true,true,true,true,true,true,true,true,true,true,true,true,true,false,false,false,false,false,false,false,false,false,false,false,false,false,false,false,false,false,false,false,false,false,false] rfl rfl (by kernel_rfl) (fun _ _ _ h => h) (Or.inr ⟨by rfl, rfl⟩) ?_ ?_
        rotate_left
        · simp only [Act.put, zA, zB, zC, i64_w, i32_w]
          rfl
        refine pure_ (i := 15) (N := some 29) (v := undef) (a' := ?_) #[true,true,true,true,true,true,true,true,true,true,true,true,true,true,true,true,false,false,false,false,false,false,false,false,false,false,false,false,false,false,false,false,false,false,false,false,false] rfl rfl (by kernel_rfl) (fun _ _ _ h => h) (Or.inr ⟨by rfl, rfl⟩) ?_ ?_
        rotate_left
        · simp only [Act.put, zA, zB, zC, i64_w, i32_w]
          rfl
        refine pure_ (i := 16) (N := some 30) (v := undef) (a' := ?_) #[true,true,true,true,true,true,true,true,true,true,true,true,true,true,true,true,true,false,false,false,false,false,false,false,false,false,false,false,false,false,false,false,false,false,false,false,false] rfl rfl (by kernel_rfl) (fun _ _ _ h => h) (Or.inr ⟨by rfl, rfl⟩) ?_ ?_
        rotate_left
        · simp only [Act.put, zA, zB, zC, i64_w, i32_w]
          rfl
        refine pure_ (i := 17) (N := some 31) (v := undef) (a' := ?_) #[true,true,true,true,true,true,true,true,true,true,true,true,true,true,true,true,true,true,false,false,false,false,false,false,false,false,false,false,false,false,false,false,false,false,false,false,false] rfl rfl (by kernel_rfl) (fun _ _ _ h => h) (Or.inr ⟨by rfl, rfl⟩) ?_ ?_
        rotate_left
        · simp only [Act.put, zA, zB, zC, i64_w, i32_w]
          rfl
        refine pure_ (i := 18) (N := some 32) (v := undef) (a' := ?_) #[true,true,true,true,true,true,true,true,true,true,true,true,true,true,true,true,true,true,true,false,false,false,false,false,false,false,false,false,false,false,false,false,false,false,false,false,false] rfl rfl (by kernel_rfl) (fun _ _ _ h => h) (Or.inr ⟨by rfl, rfl⟩) ?_ ?_
        rotate_left
        · simp only [Act.put, zA, zB, zC, i64_w, i32_w]
          rfl
        refine pure_ (i := 19) (N := some 33) (v := undef) (a' := ?_) #[true,true,true,true,true,true,true,true,true,true,true,true,true,true,true,true,true,true,true,true,false,false,false,false,false,false,false,false,false,false,false,false,false,false,false,false,false] rfl rfl (by kernel_rfl) (fun _ _ _ h => h) (Or.inr ⟨by rfl, rfl⟩) ?_ ?_
        rotate_left
        · simp only [Act.put, zA, zB, zC, i64_w, i32_w]
          rfl
        refine pure_ (i := 20) (N := some 34) (v := ?_) (a' := ?_) #[true,true,true,true,true,true,true,true,true,true,true,true,true,true,true,true,true,true,true,true,true,false,false,false,false,false,false,false,false,false,false,false,false,false,false,false,false] rfl rfl (by kernel_rfl) (fun _ _ _ h => h) (Or.inl ⟨by rfl, ?_⟩) ?_ ?_
        rotate_left
        · intro w'
          go_simp
          with_reducible rfl
        rotate_left
        · simp only [Act.put, zA, zB, zC, i64_w, i32_w]
          rfl
        refine pure_ (i := 21) (N := some 35) (v := ?_) (a' := ?_) #[true,true,true,true,true,true,true,true,true,true,true,true,true,true,true,true,true,true,true,true,true,true,false,false,false,false,false,false,false,false,false,false,false,false,false,false,false] rfl rfl (by kernel_rfl) (fun _ _ _ h => h) (Or.inl ⟨by rfl, ?_⟩) ?_ ?_
        rotate_left
        · intro w'
          go_simp
          with_reducible rfl
        rotate_left
        · simp only [Act.put, zA, zB, zC, i64_w, i32_w]
          rfl
        refine pure_ (i := 22) (N := some 36) (v := undef) (a' := ?_) #[true,true,true,true,true,true,true,true,true,true,true,true,true,true,true,true,true,true,true,true,true,true,true,false,false,false,false,false,false,false,false,false,false,false,false,false,false] rfl rfl (by kernel_rfl) (fun _ _ _ h => h) (Or.inr ⟨by rfl, rfl⟩) ?_ ?_
        rotate_left
        · simp only [Act.put, zA, zB, zC, i64_w, i32_w]
          rfl
        refine pure_ (i := 23) (N := some 37) (v := undef) (a' := ?_) #[true,true,true,true,true,true,true,true,true,true,true,true,true,true,true,true,true,true,true,true,true,true,true,true,false,false,false,false,false,false,false,false,false,false,false,false,false] rfl rfl (by kernel_rfl) (fun _ _ _ h => h) (Or.inr ⟨by rfl, rfl⟩) ?_ ?_
        rotate_left
        · simp only [Act.put, zA, zB, zC, i64_w, i32_w]
          rfl
        refine pure_ (i := 24) (N := some 38) (v := undef) (a' := ?_) #[true,true,true,true,true,true,true,true,true,true,true,true,true,true,true,true,true,true,true,true,true,true,true,true,true,false,false,false,false,false,false,false,false,false,false,false,false] rfl rfl (by kernel_rfl) (fun _ _ _ h => h) (Or.inr ⟨by rfl, rfl⟩) ?_ ?_
        rotate_left
        · simp only [Act.put, zA, zB, zC, i64_w, i32_w]
          rfl
        refine pure_ (i := 25) (N := some 39) (v := undef) (a' := ?_) #[true,true,true,true,true,true,true,true,true,true,true,true,true,true,true,true,true,true,true,true,true,true,true,true,true,true,false,false,false,false,false,false,false,false,false,false,false] rfl rfl (by kernel_rfl) (fun _ _ _ h => h) (Or.inr ⟨by rfl, rfl⟩) ?_ ?_
        rotate_left
        · simp only [Act.put, zA, zB, zC, i64_w, i32_w]
          rfl
        refine pure_ (i := 26) (N := some 40) (v := undef) (a' := ?_) #[true,true,true,true,true,true,true,true,true,true,true,true,true,true,true,true,true,true,true,true,true,true,true,true,true,true,true,false,false,false,false,false,false,false,false,false,false] rfl rfl (by kernel_rfl) (fun _ _ _ h => h) (Or.inr ⟨by rfl, rfl⟩) ?_ ?_
        rotate_left
        · simp only [Act.put, zA, zB, zC, i64_w, i32_w]
          rfl
        refine pure_ (i := 27) (N := some 41) (v := undef) (a' := ?_) #[true,true,true,true,true,true,true,true,true,true,true,true,true,true,true,true,true,true,true,true,true,true,true,true,true,true,true,true,false,false,false,false,false,false,false,false,false] rfl rfl (by kernel_rfl) (fun _ _ _ h => h) (Or.inr ⟨by rfl, rfl⟩) ?_ ?_
        rotate_left
        · simp only [Act.put, zA, zB, zC, i64_w, i32_w]
          rfl
        refine pure_ (i := 28) (N := some 42) (v := undef) (a' := ?_) #[true,true,true,true,true,true,true,true,true,true,true,true,true,true,true,true,true,true,true,true,true,true,true,true,true,true,true,true,true,false,false,false,false,false,false,false,false] rfl rfl (by kernel_rfl) (fun _ _ _ h => h) (Or.inr ⟨by rfl, rfl⟩) ?_ ?_
        rotate_left
        · simp only [Act.put, zA, zB, zC, i64_w, i32_w]
          rfl
        refine pure_ (i := 29) (N := some 43) (v := undef) (a' := ?_) #[true,true,true,true,true,true,true,true,true,true,true,true,true,true,true,true,true,true,true,true,true,true,true,true,true,true,true,true,true,true,false,false,false,false,false,false,false] rfl rfl (by kernel_rfl) (fun _ _ _ h => h) (Or.inr ⟨by rfl, rfl⟩) ?_ ?_
        rotate_left
        · simp only [Act.put, zA, zB, zC, i64_w, i32_w]
          rfl
        refine pure_ (i := 30) (N := some 44) (v := undef) (a' := ?_) #[true,true,true,true,true,true,true,true,true,true,true,true,true,true,true,true,true,true,true,true,true,true,true,true,true,true,true,true,true,true,true,false,false,false,false,false,false] rfl rfl (by kernel_rfl) (fun _ _ _ h => h) (Or.inr ⟨by rfl, rfl⟩) ?_ ?_
        rotate_left
        · simp only [Act.put, zA, zB, zC, i64_w, i32_w]
          rfl
        refine pure_ (i := 31) (N := some 45) (v := undef) (a' := ?_) #[true,true,true,true,true,true,true,true,true,true,true,true,true,true,true,true,true,true,true,true,true,true,true,true,true,true,true,true,true,true,true,true,false,false,false,false,false] rfl rfl (by kernel_rfl) (fun _ _ _ h => h) (Or.inr ⟨by rfl, rfl⟩) ?_ ?_
        rotate_left
        · simp only [Act.put, zA, zB, zC, i64_w, i32_w]
          rfl
        refine pure_ (i := 32) (N := some 46) (v := undef) (a' := ?_) #[true,true,true,true,true,true,true,true,true,true,true,true,true,true,true,true,true,true,true,true,true,true,true,true,true,true,true,true,true,true,true,true,true,false,false,false,false] rfl rfl (by kernel_rfl) (fun _ _ _ h => h) (Or.inr ⟨by rfl, rfl⟩) ?_ ?_
        rotate_left
        · simp only [Act.put, zA, zB, zC, i64_w, i32_w]
          rfl
        refine pure_ (i := 33) (N := some 47) (v := undef) (a' := ?_) #[true,true,true,true,true,true,true,true,true,true,true,true,true,true,true,true,true,true,true,true,true,true,true,true,true,true,true,true,true,true,true,true,true,true,false,false,false] rfl rfl (by kernel_rfl) (fun _ _ _ h => h) (Or.inr ⟨by rfl, rfl⟩) ?_ ?_
        rotate_left
        · simp only [Act.put, zA, zB, zC, i64_w, i32_w]
          rfl
        refine pure_ (i := 34) (N := some 48) (v := undef) (a' := ?_) #[true,true,true,true,true,true,true,true,true,true,true,true,true,true,true,true,true,true,true,true,true,true,true,true,true,true,true,true,true,true,true,true,true,true,true,false,false] rfl rfl (by kernel_rfl) (fun _ _ _ h => h) (Or.inr ⟨by rfl, rfl⟩) ?_ ?_
        rotate_left
        · simp only [Act.put, zA, zB, zC, i64_w, i32_w]
          rfl
        refine pure_ (i := 35) (N := some 49) (v := undef) (a' := ?_) #[true,true,true,true,true,true,true,true,true,true,true,true,true,true,true,true,true,true,true,true,true,true,true,true,true,true,true,true,true,true,true,true,true,true,true,true,false] rfl rfl (by kernel_rfl) (fun _ _ _ h => h) (Or.inr ⟨by rfl, rfl⟩) ?_ ?_
        rotate_left
        · simp only [Act.put, zA, zB, zC, i64_w, i32_w]
          rfl
        refine pure_ (i := 36) (N := some 50) (v := ?_) (a' := ?_) #[true,true,true,true,true,true,true,true,true,true,true,true,true,true,true,true,true,true,true,true,true,true,true,true,true,true,true,true,true,true,true,true,true,true,true,true,true] rfl rfl (by kernel_rfl) (fun _ _ _ h => h) (Or.inl ⟨by rfl, ?_⟩) ?_ ?_
        rotate_left
        · intro w'
          go_simp
          with_reducible rfl
        rotate_left
        · simp only [Act.put, zA, zB, zC, i64_w, i32_w]
          rfl
        refine done_ (by kernel_rfl) ?_
        go_wp2
        go_ret
        rw [HG.out, HFIN.out]
        exact ⟨rfl, below_drew HBR.out⟩
      · have hd3 : decide (x < 0) = false := decide_eq_false h1
        by_cases h2 : (n : Int) ≤ x
        · have hd4 : decide ((n : Int) ≤ x) = true := decide_eq_true h2
          have HFIN : Aside0 ((decide (y < x) && (decide (x < (n : Int)) && (decide (x ≠ (i : Int)) && goNeeds n i x (ns.drop (k + 1))))) = false) := ⟨by rw [decide_eq_false (p := x < (n : Int)) (by omega)]; simp⟩
          clear h1 h2
          go_wp2
          refine start_ (n := 37) (S := fun w' => w'.cell? (ad.add k) = some (.int .i64 x)) (ds := []) #[false,false,false,false,false,false,false,false,false,false,false,false,false,false,false,false,false,false,false,false,false,false,false,false,false,false,false,false,false,false,false,false,false,false,false,false,false] (by kernel_rfl) rfl rfl ((by go_keep)) (fun hHeld => ?_)
          refine pure_ (i := 0) (N := some 14) (v := ?_) (a' := ?_) #[true,false,false,false,false,false,false,false,false,false,false,false,false,false,false,false,false,false,false,false,false,false,false,false,false,false,false,false,false,false,false,false,false,false,false,false,false] rfl rfl (by kernel_rfl) (fun _ _ _ h => h) (Or.inl ⟨by rfl, ?_⟩) ?_ ?_
          rotate_left
          · intro w'
            go_simp
            with_reducible rfl
          rotate_left
          · simp only [Act.put, zA, zB, zC, i64_w, i32_w]
            rfl
          refine pure_ (i := 1) (N := some 15) (v := ?_) (a' := ?_) #[true,true,false,false,false,false,false,false,false,false,false,false,false,false,false,false,false,false,false,false,false,false,false,false,false,false,false,false,false,false,false,false,false,false,false,false,false] rfl rfl (by kernel_rfl) (fun _ _ _ h => h) (Or.inl ⟨by rfl, ?_⟩) ?_ ?_
          rotate_left
          · intro w'
            go_simp
            with_reducible rfl
          rotate_left
          · simp only [Act.put, zA, zB, zC, i64_w, i32_w]
            rfl
          refine pure_ (i := 2) (N := some 16) (v := ?_) (a' := ?_) #[true,true,true,false,false,false,false,false,false,false,false,false,false,false,false,false,false,false,false,false,false,false,false,false,false,false,false,false,false,false,false,false,false,false,false,false,false] rfl rfl (by kernel_rfl) (fun _ _ _ h => h) (Or.inl ⟨by rfl, ?_⟩) ?_ ?_
          rotate_left
          · intro w'
            go_simp
            with_reducible rfl
          rotate_left
          · simp only [Act.put, zA, zB, zC, i64_w, i32_w]
            rfl
          refine take_ (i := 3) (N := some 17) (v := ?_) (a' := ?_) #[true,true,true,true,false,false,false,false,false,false,false,false,false,false,false,false,false,false,false,false,false,false,false,false,false,false,false,false,false,false,false,false,false,false,false,false,false] rfl rfl (by kernel_rfl) (fun _ _ _ h => h) (Or.inl ⟨by rfl, ?_⟩) hHeld ?_ ?_
          rotate_left
          · intro w' s0
            go_simp
            with_reducible rfl
          rotate_left
          · simp only [Act.put, zA, zB, zC, i64_w, i32_w]
            rfl
          refine pure_ (i := 4) (N := some 18) (v := ?_) (a' := ?_) #[true,true,true,true,true,false,false,false,false,false,false,false,false,false,false,false,false,false,false,false,false,false,false,false,false,false,false,false,false,false,false,false,false,false,false,false,false] rfl rfl (by kernel_rfl) (fun _ _ _ h => h) (Or.inl ⟨by rfl, ?_⟩) ?_ ?_
          rotate_left
          · intro w'
            go_simp
            with_reducible rfl
          rotate_left
          · simp only [Act.put, zA, zB, zC, i64_w, i32_w]
            rfl
          refine pure_ (i := 5) (N := some 19) (v := ?_) (a' := ?_) #[true,true,true,true,true,true,false,false,false,false,false,false,false,false,false,false,false,false,false,false,false,false,false,false,false,false,false,false,false,false,false,false,false,false,false,false,false] rfl rfl (by kernel_rfl) (fun _ _ _ h => h) (Or.inl ⟨by rfl, ?_⟩) ?_ ?_
          rotate_left
          · intro w'
            go_simp
            with_reducible rfl
          rotate_left
          · simp only [Act.put, zA, zB, zC, i64_w, i32_w]
            rfl
          refine pure_ (i := 6) (N := some 20) (v := ?_) (a' := ?_) #[true,true,true,true,true,true,true,false,false,false,false,false,false,false,false,false,false,false,false,false,false,false,false,false,false,false,false,false,false,false,false,false,false,false,false,false,false] rfl rfl (by kernel_rfl) (fun _ _ _ h => h) (Or.inl ⟨by rfl, ?_⟩) ?_ ?_
          rotate_left
          · intro w'
            go_simp
            with_reducible rfl
          rotate_left
          · simp only [Act.put, zA, zB, zC, i64_w, i32_w]
            rfl
          refine pure_ (i := 7) (N := some 21) (v := ?_) (a' := ?_) #[true,true,true,true,true,true,true,true,false,false,false,false,false,false,false,false,false,false,false,false,false,false,false,false,false,false,false,false,false,false,false,false,false,false,false,false,false] rfl rfl (by kernel_rfl) (fun _ _ _ h => h) (Or.inl ⟨by rfl, ?_⟩) ?_ ?_
          rotate_left
          · intro w'
            go_simp
            with_reducible rfl
          rotate_left
          · simp only [Act.put, zA, zB, zC, i64_w, i32_w]
            rfl
          refine pure_ (i := 8) (N := some 22) (v := ?_) (a' := ?_) #[true,true,true,true,true,true,true,true,true,false,false,false,false,false,false,false,false,false,false,false,false,false,false,false,false,false,false,false,false,false,false,false,false,false,false,false,false] rfl rfl (by kernel_rfl) (fun _ _ _ h => h) (Or.inl ⟨by rfl, ?_⟩) ?_ ?_
          rotate_left
          · intro w'
            go_simp
            with_reducible rfl
          rotate_left
          · simp only [Act.put, zA, zB, zC, i64_w, i32_w]
            rfl
          refine pure_ (i := 10) (N := some 24) (v := ?_) (a' := ?_) #[true,true,true,true,true,true,true,true,true,false,true,false,false,false,false,false,false,false,false,false,false,false,false,false,false,false,false,false,false,false,false,false,false,false,false,false,false] rfl rfl (by kernel_rfl) (fun _ _ _ h => h) (Or.inl ⟨by rfl, ?_⟩) ?_ ?_
          rotate_left
          · intro w'
            go_simp
            with_reducible rfl
          rotate_left
          · simp only [Act.put, zA, zB, zC, i64_w, i32_w]
            rfl
          refine take_ (i := 9) (N := some 23) (v := ?_) (a' := ?_) #[true,true,true,true,true,true,true,true,true,true,true,false,false,false,false,false,false,false,false,false,false,false,false,false,false,false,false,false,false,false,false,false,false,false,false,false,false] rfl rfl (by kernel_rfl) (fun _ _ _ h => h) (Or.inl ⟨by rfl, ?_⟩) hHeld ?_ ?_
          rotate_left
          · intro w' s0
            go_simp
            with_reducible rfl
          rotate_left
          · simp only [Act.put, zA, zB, zC, i64_w, i32_w]
            rfl
          refine pure_ (i := 11) (N := some 25) (v := ?_) (a' := ?_) #[true,true,true,true,true,true,true,true,true,true,true,true,false,false,false,false,false,false,false,false,false,false,false,false,false,false,false,false,false,false,false,false,false,false,false,false,false] rfl rfl (by kernel_rfl) (fun _ _ _ h => h) (Or.inl ⟨by rfl, ?_⟩) ?_ ?_
          rotate_left
          · intro w'
            go_simp
            with_reducible rfl
          rotate_left
          · simp only [Act.put, zA, zB, zC, i64_w, i32_w]
            rfl
          refine pure_ (i := 12) (N := some 26) (v := ?_) (a' := ?_) #[true,true,true,true,true,true,true,true,true,true,true,true,true,false,false,false,false,false,false,false,false,false,false,false,false,false,false,false,false,false,false,false,false,false,false,false,false] rfl rfl (by kernel_rfl) (fun _ _ _ h => h) (Or.inl ⟨by rfl, ?_⟩) ?_ ?_
          rotate_left
          · intro w'
            go_simp
            with_reducible rfl
          rotate_left
          · simp only [Act.put, zA, zB, zC, i64_w, i32_w]
            rfl
          refine pure_ (i := 13) (N := some 27) (v := ?_) (a' := ?_) #[true,true,true,true,true,true,true,true,true,true,true,true,true,true,false,false,false,false,false,false,false,false,false,false,false,false,false,false,false,false,false,false,false,false,false,false,false] rfl rfl (by kernel_rfl) (fun _ _ _ h => h) (Or.inl ⟨by rfl, ?_⟩) ?_ ?_
          rotate_left
          · intro w'
            go_simp
            with_reducible rfl
          rotate_left
          · simp only [Act.put, zA, zB, zC, i64_w, i32_w]
            rfl
          refine pure_ (i := 14) (N := some 28) (v := undef) (a' := ?_) #[true,true,true,true,true,true,true,true,true,true,true,true,true,true,true,false,false,false,false,false,false,false,false,false,false,false,false,false,false,false,false,false,false,false,false,false,false] rfl rfl (by kernel_rfl) (fun _ _ _ h => h) (Or.inr ⟨by rfl, rfl⟩) ?_ ?_
          rotate_left
          · simp only [Act.put, zA, zB, zC, i64_w, i32_w]
            rfl
          refine pure_ (i := 15) (N := some 29) (v := undef) (a' := ?_) #[true,true,true,true,true,true,true,true,true,true,true,true,true,true,true,true,false,false,false,false,false,false,false,false,false,false,false,false,false,false,false,false,false,false,false,false,false] rfl rfl (by kernel_rfl) (fun _ _ _ h => h) (Or.inr ⟨by rfl, rfl⟩) ?_ ?_
          rotate_left
          · simp only [Act.put, zA, zB, zC, i64_w, i32_w]
            rfl
          refine pure_ (i := 16) (N := some 30) (v := undef) (a' := ?_) #[true,true,true,true,true,true,true,true,true,true,true,true,true,true,true,true,true,false,false,false,false,false,false,false,false,false,false,false,false,false,false,false,false,false,false,false,false] rfl rfl (by kernel_rfl) (fun _ _ _ h => h) (Or.inr ⟨by rfl, rfl⟩) ?_ ?_
          rotate_left
          · simp only [Act.put, zA, zB, zC, i64_w, i32_w]
            rfl
          refine pure_ (i := 17) (N := some 31) (v := undef) (a' := ?_) #[true,true,true,true,true,true,true,true,true,true,true,true,true,true,true,true,true,true,false,false,false,false,false,false,false,false,false,false,false,false,false,false,false,false,false,false,false] rfl rfl (by kernel_rfl) (fun _ _ _ h => h) (Or.inr ⟨by rfl, rfl⟩) ?_ ?_
          rotate_left
          · simp only [Act.put, zA, zB, zC, i64_w, i32_w]
            rfl
          refine pure_ (i := 18) (N := some 32) (v := undef) (a' := ?_) #[true,true,true,true,true,true,true,true,true,true,true,true,true,true,true,true,true,true,true,false,false,false,false,false,false,false,false,false,false,false,false,false,false,false,false,false,false] rfl rfl (by kernel_rfl) (fun _ _ _ h => h) (Or.inr ⟨by rfl, rfl⟩) ?_ ?_
          rotate_left
          · simp only [Act.put, zA, zB, zC, i64_w, i32_w]
            rfl
          refine pure_ (i := 19) (N := some 33) (v := undef) (a' := ?_) #[true,true,true,true,true,true,true,true,true,true,true,true,true,true,true,true,true,true,true,true,false,false,false,false,false,false,false,false,false,false,false,false,false,false,false,false,false] rfl rfl (by kernel_rfl) (fun _ _ _ h => h) (Or.inr ⟨by rfl, rfl⟩) ?_ ?_
          rotate_left
          · simp only [Act.put, zA, zB, zC, i64_w, i32_w]
            rfl
          refine pure_ (i := 20) (N := some 34) (v := ?_) (a' := ?_) #[true,true,true,true,true,true,true,true,true,true,true,true,true,true,true,true,true,true,true,true,true,false,false,false,false,false,false,false,false,false,false,false,false,false,false,false,false] rfl rfl (by kernel_rfl) (fun _ _ _ h => h) (Or.inl ⟨by rfl, ?_⟩) ?_ ?_
          rotate_left
          · intro w'
            go_simp
            with_reducible rfl
          rotate_left
          · simp only [Act.put, zA, zB, zC, i64_w, i32_w]
            rfl
          refine pure_ (i := 21) (N := some 35) (v := ?_) (a' := ?_) #[true,true,true,true,true,true,true,true,true,true,true,true,true,true,true,true,true,true,true,true,true,true,false,false,false,false,false,false,false,false,false,false,false,false,false,false,false] rfl rfl (by kernel_rfl) (fun _ _ _ h => h) (Or.inl ⟨by rfl, ?_⟩) ?_ ?_
          rotate_left
          · intro w'
            go_simp
            with_reducible rfl
          rotate_left
          · simp only [Act.put, zA, zB, zC, i64_w, i32_w]
            rfl
          refine pure_ (i := 22) (N := some 36) (v := undef) (a' := ?_) #[true,true,true,true,true,true,true,true,true,true,true,true,true,true,true,true,true,true,true,true,true,true,true,false,false,false,false,false,false,false,false,false,false,false,false,false,false] rfl rfl (by kernel_rfl) (fun _ _ _ h => h) (Or.inr ⟨by rfl, rfl⟩) ?_ ?_
          rotate_left
          · simp only [Act.put, zA, zB, zC, i64_w, i32_w]
            rfl
          refine pure_ (i := 23) (N := some 37) (v := undef) (a' := ?_) #[true,true,true,true,true,true,true,true,true,true,true,true,true,true,true,true,true,true,true,true,true,true,true,true,false,false,false,false,false,false,false,false,false,false,false,false,false] rfl rfl (by kernel_rfl) (fun _ _ _ h => h) (Or.inr ⟨by rfl, rfl⟩) ?_ ?_
          rotate_left
          · simp only [Act.put, zA, zB, zC, i64_w, i32_w]
            rfl
          refine pure_ (i := 24) (N := some 38) (v := undef) (a' := ?_) #[true,true,true,true,true,true,true,true,true,true,true,true,true,true,true,true,true,true,true,true,true,true,true,true,true,false,false,false,false,false,false,false,false,false,false,false,false] rfl rfl (by kernel_rfl) (fun _ _ _ h => h) (Or.inr ⟨by rfl, rfl⟩) ?_ ?_
          rotate_left
          · simp only [Act.put, zA, zB, zC, i64_w, i32_w]
            rfl
          refine pure_ (i := 25) (N := some 39) (v := undef) (a' := ?_) #[true,true,true,true,true,true,true,true,true,true,true,true,true,true,true,true,true,true,true,true,true,true,true,true,true,true,false,false,false,false,false,false,false,false,false,false,false] rfl rfl (by kernel_rfl) (fun _ _ _ h => h) (Or.inr ⟨by rfl, rfl⟩) ?_ ?_
          rotate_left
          · simp only [Act.put, zA, zB, zC, i64_w, i32_w]
            rfl
          refine pure_ (i := 26) (N := some 40) (v := undef) (a' := ?_) #[true,true,true,true,true,true,true,true,true,true,true,true,true,true,true,true,true,true,true,true,true,true,true,true,true,true,true,false,false,false,false,false,false,false,false,false,false] rfl rfl (by kernel_rfl) (fun _ _ _ h => h) (Or.inr ⟨by rfl, rfl⟩) ?_ ?_
          rotate_left
          · simp only [Act.put, zA, zB, zC, i64_w, i32_w]
            rfl
          refine pure_ (i := 27) (N := some 41) (v := undef) (a' := ?_) #[true,true,true,true,true,true,true,true,true,true,true,true,true,true,true,true,true,true,true,true,true,true,true,true,true,true,true,true,false,false,false,false,false,false,false,false,false] rfl rfl (by kernel_rfl) (fun _ _ _ h => h) (Or.inr ⟨by rfl, rfl⟩) ?_ ?_
          rotate_left
          · simp only [Act.put, zA, zB, zC, i64_w, i32_w]
            rfl
          refine pure_ (i := 28) (N := some 42) (v := undef) (a' := ?_) #[true,true,true,true,true,true,true,true,true,true,true,true,true,true,true,true,true,true,true,true,true,true,true,true,true,true,true,true,true,false,false,false,false,false,false,false,false] rfl rfl (by kernel_rfl) (fun _ _ _ h => h) (Or.inr ⟨by rfl, rfl⟩) ?_ ?_
          rotate_left
          · simp only [Act.put, zA, zB, zC, i64_w, i32_w]
            rfl
          refine pure_ (i := 29) (N := some 43) (v := undef) (a' := ?_) #[true,true,true,true,true,true,true,true,true,true,true,true,true,true,true,true,true,true,true,true,true,true,true,true,true,true,true,true,true,true,false,false,false,false,false,false,false] rfl rfl (by kernel_rfl) (fun _ _ _ h => h) (Or.inr ⟨by rfl, rfl⟩) ?_ ?_
          rotate_left
          · simp only [Act.put, zA, zB, zC, i64_w, i32_w]
            rfl
          refine pure_ (i := 30) (N := some 44) (v := undef) (a' := ?_) #[true,true,true,true,true,true,true,true,true,true,true,true,true,true,true,true,true,true,true,true,true,true,true,true,true,true,true,true,true,true,true,false,false,false,false,false,false] rfl rfl (by kernel_rfl) (fun _ _ _ h => h) (Or.inr ⟨by rfl, rfl⟩) ?_ ?_
          rotate_left
          · simp only [Act.put, zA, zB, zC, i64_w, i32_w]
            rfl
          refine pure_ (i := 31) (N := some 45) (v := undef) (a' := ?_) #[true,true,true,true,true,true,true,true,true,true,true,true,true,true,true,true,true,true,true,true,true,true,true,true,true,true,true,true,true,true,true,true,false,false,false,false,false] rfl rfl (by kernel_rfl) (fun _ _ _ h => h) (Or.inr ⟨by rfl, rfl⟩) ?_ ?_
          rotate_left
          · simp only [Act.put, zA, zB, zC, i64_w, i32_w]
            rfl
          refine pure_ (i := 32) (N := some 46) (v := undef) (a' := ?_) #[true,true,true,true,true,true,true,true,true,true,true,true,true,true,true,true,true,true,true,true,true,true,true,true,true,true,true,true,true,true,true,true,true,false,false,false,false] rfl rfl (by kernel_rfl) (fun _ _ _ h => h) (Or.inr ⟨by rfl, rfl⟩) ?_ ?_
          rotate_left
          · simp only [Act.put, zA, zB, zC, i64_w, i32_w]
            rfl
          refine pure_ (i := 33) (N := some 47) (v := undef) (a' := ?_) #[true,true,true,true,true,true,true,true,true,true,true,true,true,true,true,true,true,true,true,true,true,true,true,true,true,true,true,true,true,true,true,true,true,true,false,false,false] rfl rfl (by kernel_rfl) (fun _ _ _ h => h) (Or.inr ⟨by rfl, rfl⟩) ?_ ?_
          rotate_left
          · simp only [Act.put, zA, zB, zC, i64_w, i32_w]
            rfl
          refine pure_ (i := 34) (N := some 48) (v := undef) (a' := ?_) #[true,true,true,true,true,true,true,true,true,true,true,true,true,true,true,true,true,true,true,true,true,true,true,true,true,true,true,true,true,true,true,true,true,true,true,false,false] rfl rfl (by kernel_rfl) (fun _ _ _ h => h) (Or.inr ⟨by rfl, rfl⟩) ?_ ?_
          rotate_left
          · simp only [Act.put, zA, zB, zC, i64_w, i32_w]
            rfl
          refine pure_ (i := 35) (N := some 49) (v := undef) (a' := ?_) #[true,true,true,true,true,true,true,true,true,true,true,true,true,true,true,true,true,true,true,true,true,true,true,true,true,true,true,true,true,true,true,true,true,true,true,true,false] rfl rfl (by kernel_rfl) (fun _ _ _ h => h) (Or.inr ⟨by rfl, rfl⟩) ?_ ?_
          rotate_left
          · simp only [Act.put, zA, zB, zC, i64_w, i32_w]
            rfl
          refine pure_ (i := 36) (N := some 50) (v := ?_) (a' := ?_) #[true,true,true,true,true,true,true,true,true,true,true,true,true,true,true,true,true,true,true,true,true,true,true,true,true,true,true,true,true,true,true,true,true,true,true,true,true] rfl rfl (by kernel_rfl) (fun _ _ _ h => h) (Or.inl ⟨by rfl, ?_⟩) ?_ ?_
          rotate_left
          · intro w'
            go_simp
            with_reducible rfl
          rotate_left
          · simp only [Act.put, zA, zB, zC, i64_w, i32_w]
            rfl
          refine done_ (by kernel_rfl) ?_
          go_wp2
          go_ret
          rw [HG.out, HFIN.out]
          exact ⟨rfl, below_drew HBR.out⟩
        · have hd4 : decide ((n : Int) ≤ x) = false := decide_eq_false h2
          by_cases h3 : x = (i : Int)
          · have hd5 : (x == (i : Int)) = true := beq_iff_eq.2 h3
            have HFIN : Aside0 ((decide (y < x) && (decide (x < (n : Int)) && (decide (x ≠ (i : Int)) && goNeeds n i x (ns.drop (k + 1))))) = false) := ⟨by rw [decide_eq_false (p := x ≠ (i : Int)) (by omega)]; simp⟩
            clear h1 h2 h3
            go_wp2
            refine start_ (n := 37) (S := fun w' => w'.cell? (ad.add k) = some (.int .i64 x)) (ds := []) #[false,false,false,false,false,false,false,false,false,false,false,false,false,false,false,false,false,false,false,false,false,false,false,false,false,false,false,false,false,false,false,false,false,false,false,false,false] (by kernel_rfl) rfl rfl ((by go_keep)) (fun hHeld => ?_)
            refine pure_ (i := 0) (N := some 14) (v := ?_) (a' := ?_) #[true,false,false,false,false,false,false,false,false,false,false,false,false,false,false,false,false,false,false,false,false,false,false,false,false,false,false,false,false,false,false,false,false,false,false,false,false] rfl rfl (by kernel_rfl) (fun _ _ _ h => h) (Or.inl ⟨by rfl, ?_⟩) ?_ ?_
            rotate_left
            · intro w'
              go_simp
              with_reducible rfl
            rotate_left
            · simp only [Act.put, zA, zB, zC, i64_w, i32_w]
              rfl
            refine pure_ (i := 1) (N := some 15) (v := ?_) (a' := ?_) #[true,true,false,false,false,false,false,false,false,false,false,false,false,false,false,false,false,false,false,false,false,false,false,false,false,false,false,false,false,false,false,false,false,false,false,false,false] rfl rfl (by kernel_rfl) (fun _ _ _ h => h) (Or.inl ⟨by rfl, ?_⟩) ?_ ?_
            rotate_left
            · intro w'
              go_simp
              with_reducible rfl
            rotate_left
            · simp only [Act.put, zA, zB, zC, i64_w, i32_w]
              rfl
            refine pure_ (i := 2) (N := some 16) (v := ?_) (a' := ?_) #[true,true,true,false,false,false,false,false,false,false,false,false,false,false,false,false,false,false,false,false,false,false,false,false,false,false,false,false,false,false,false,false,false,false,false,false,false] rfl rfl (by kernel_rfl) (fun _ _ _ h => h) (Or.inl ⟨by rfl, ?_⟩) ?_ ?_
            rotate_left
            · intro w'
              go_simp
              with_reducible rfl
            rotate_left
            · simp only [Act.put, zA, zB, zC, i64_w, i32_w]
              rfl
            refine take_ (i := 3) (N := some 17) (v := ?_) (a' := ?_) #[true,true,true,true,false,false,false,false,false,false,false,false,false,false,false,false,false,false,false,false,false,false,false,false,false,false,false,false,false,false,false,false,false,false,false,false,false] rfl rfl (by kernel_rfl) (fun _ _ _ h => h) (Or.inl ⟨by rfl, ?_⟩) hHeld ?_ ?_
            rotate_left
            · intro w' s0
              go_simp
              with_reducible rfl
            rotate_left
            · simp only [Act.put, zA, zB, zC, i64_w, i32_w]
              rfl
            refine pure_ (i := 4) (N := some 18) (v := ?_) (a' := ?_) #[true,true,true,true,true,false,false,false,false,false,false,false,false,false,false,false,false,false,false,false,false,false,false,false,false,false,false,false,false,false,false,false,false,false,false,false,false] rfl rfl (by kernel_rfl) (fun _ _ _ h => h) (Or.inl ⟨by rfl, ?_⟩) ?_ ?_
            rotate_left
            · intro w'
              go_simp
              with_reducible rfl
            rotate_left
            · simp only [Act.put, zA, zB, zC, i64_w, i32_w]
              rfl
            refine pure_ (i := 5) (N := some 19) (v := ?_) (a' := ?_) #[true,true,true,true,true,true,false,false,false,false,false,false,false,false,false,false,false,false,false,false,false,false,false,false,false,false,false,false,false,false,false,false,false,false,false,false,false] rfl rfl (by kernel_rfl) (fun _ _ _ h => h) (Or.inl ⟨by rfl, ?_⟩) ?_ ?_
            rotate_left
            · intro w'
              go_simp
              with_reducible rfl
            rotate_left
            · simp only [Act.put, zA, zB, zC, i64_w, i32_w]
              rfl
            refine pure_ (i := 6) (N := some 20) (v := ?_) (a' := ?_) #[true,true,true,true,true,true,true,false,false,false,false,false,false,false,false,false,false,false,false,false,false,false,false,false,false,false,false,false,false,false,false,false,false,false,false,false,false] rfl rfl (by kernel_rfl) (fun _ _ _ h => h) (Or.inl ⟨by rfl, ?_⟩) ?_ ?_
            rotate_left
            · intro w'
              go_simp
              with_reducible rfl
            rotate_left
            · simp only [Act.put, zA, zB, zC, i64_w, i32_w]
              rfl
            refine pure_ (i := 7) (N := some 21) (v := ?_) (a' := ?_) #[true,true,true,true,true,true,true,true,false,false,false,false,false,false,false,false,false,false,false,false,false,false,false,false,false,false,false,false,false,false,false,false,false,false,false,false,false] rfl rfl (by kernel_rfl) (fun _ _ _ h => h) (Or.inl ⟨by rfl, ?_⟩) ?_ ?_
            rotate_left
            · intro w'
              go_simp
              with_reducible rfl
            rotate_left
            · simp only [Act.put, zA, zB, zC, i64_w, i32_w]
              rfl
            refine pure_ (i := 8) (N := some 22) (v := ?_) (a' := ?_) #[true,true,true,true,true,true,true,true,true,false,false,false,false,false,false,false,false,false,false,false,false,false,false,false,false,false,false,false,false,false,false,false,false,false,false,false,false] rfl rfl (by kernel_rfl) (fun _ _ _ h => h) (Or.inl ⟨by rfl, ?_⟩) ?_ ?_
            rotate_left
            · intro w'
              go_simp
              with_reducible rfl
            rotate_left
            · simp only [Act.put, zA, zB, zC, i64_w, i32_w]
              rfl
            refine pure_ (i := 10) (N := some 24) (v := ?_) (a' := ?_) #[true,true,true,true,true,true,true,true,true,false,true,false,false,false,false,false,false,false,false,false,false,false,false,false,false,false,false,false,false,false,false,false,false,false,false,false,false] rfl rfl (by kernel_rfl) (fun _ _ _ h => h) (Or.inl ⟨by rfl, ?_⟩) ?_ ?_
            rotate_left
            · intro w'
              go_simp
              with_reducible rfl
            rotate_left
            · simp only [Act.put, zA, zB, zC, i64_w, i32_w]
              rfl
            refine take_ (i := 9) (N := some 23) (v := ?_) (a' := ?_) #[true,true,true,true,true,true,true,true,true,true,true,false,false,false,false,false,false,false,false,false,false,false,false,false,false,false,false,false,false,false,false,false,false,false,false,false,false] rfl rfl (by kernel_rfl) (fun _ _ _ h => h) (Or.inl ⟨by rfl, ?_⟩) hHeld ?_ ?_
            rotate_left
            · intro w' s0
              go_simp
              with_reducible rfl
            rotate_left
            · simp only [Act.put, zA, zB, zC, i64_w, i32_w]
              rfl
            refine pure_ (i := 11) (N := some 25) (v := ?_) (a' := ?_) #[true,true,true,true,true,true,true,true,true,true,true,true,false,false,false,false,false,false,false,false,false,false,false,false,false,false,false,false,false,false,false,false,false,false,false,false,false] rfl rfl (by kernel_rfl) (fun _ _ _ h => h) (Or.inl ⟨by rfl, ?_⟩) ?_ ?_
            rotate_left
            · intro w'
              go_simp
              with_reducible rfl
            rotate_left
            · simp only [Act.put, zA, zB, zC, i64_w, i32_w]
              rfl
            refine pure_ (i := 12) (N := some 26) (v := ?_) (a' := ?_) #[true,true,true,true,true,true,true,true,true,true,true,true,true,false,false,false,false,false,false,false,false,false,false,false,false,false,false,false,false,false,false,false,false,false,false,false,false] rfl rfl (by kernel_rfl) (fun _ _ _ h => h) (Or.inl ⟨by rfl, ?_⟩) ?_ ?_
            rotate_left
            · intro w'
              go_simp
              with_reducible rfl
            rotate_left
            · simp only [Act.put, zA, zB, zC, i64_w, i32_w]
              rfl
            refine pure_ (i := 13) (N := some 27) (v := ?_) (a' := ?_) #[true,true,true,true,true,true,true,true,true,true,true,true,true,true,false,false,false,false,false,false,false,false,false,false,false,false,false,false,false,false,false,false,false,false,false,false,false] rfl rfl (by kernel_rfl) (fun _ _ _ h => h) (Or.inl ⟨by rfl, ?_⟩) ?_ ?_
            rotate_left
            · intro w'
              go_simp
              with_reducible rfl
            rotate_left
            · simp only [Act.put, zA, zB, zC, i64_w, i32_w]
              rfl
            refine pure_ (i := 14) (N := some 28) (v := ?_) (a' := ?_) #[true,true,true,true,true,true,true,true,true,true,true,true,true,true,true,false,false,false,false,false,false,false,false,false,false,false,false,false,false,false,false,false,false,false,false,false,false] rfl rfl (by kernel_rfl) (fun _ _ _ h => h) (Or.inl ⟨by rfl, ?_⟩) ?_ ?_
            rotate_left
            · intro w'
              go_simp
              with_reducible rfl
            rotate_left
            · simp only [Act.put, zA, zB, zC, i64_w, i32_w]
              rfl
            refine pure_ (i := 15) (N := some 29) (v := ?_) (a' := ?_) #[true,true,true,true,true,true,true,true,true,true,true,true,true,true,true,true,false,false,false,false,false,false,false,false,false,false,false,false,false,false,false,false,false,false,false,false,false] rfl rfl (by kernel_rfl) (fun _ _ _ h => h) (Or.inl ⟨by rfl, ?_⟩) ?_ ?_
            rotate_left
            · intro w'
              go_simp
              with_reducible rfl
            rotate_left
            · simp only [Act.put, zA, zB, zC, i64_w, i32_w]
              rfl
            refine pure_ (i := 16) (N := some 30) (v := ?_) (a' := ?_) #[true,true,true,true,true,true,true,true,true,true,true,true,true,true,true,true,true,false,false,false,false,false,false,false,false,false,false,false,false,false,false,false,false,false,false,false,false] rfl rfl (by kernel_rfl) (fun _ _ _ h => h) (Or.inl ⟨by rfl, ?_⟩) ?_ ?_
            rotate_left
            · intro w'
              go_simp
              with_reducible rfl
            rotate_left
            · simp only [Act.put, zA, zB, zC, i64_w, i32_w]
              rfl
            refine pure_ (i := 18) (N := some 32) (v := ?_) (a' := ?_) #[true,true,true,true,true,true,true,true,true,true,true,true,true,true,true,true,true,false,true,false,false,false,false,false,false,false,false,false,false,false,false,false,false,false,false,false,false] rfl rfl (by kernel_rfl) (fun _ _ _ h => h) (Or.inl ⟨by rfl, ?_⟩) ?_ ?_
            rotate_left
            · intro w'
              go_simp
              with_reducible rfl
            rotate_left
            · simp only [Act.put, zA, zB, zC, i64_w, i32_w]
              rfl
            refine take_ (i := 17) (N := some 31) (v := ?_) (a' := ?_) #[true,true,true,true,true,true,true,true,true,true,true,true,true,true,true,true,true,true,true,false,false,false,false,false,false,false,false,false,false,false,false,false,false,false,false,false,false] rfl rfl (by kernel_rfl) (fun _ _ _ h => h) (Or.inl ⟨by rfl, ?_⟩) hHeld ?_ ?_
            rotate_left
            · intro w' s0
              go_simp
              with_reducible rfl
            rotate_left
            · simp only [Act.put, zA, zB, zC, i64_w, i32_w]
              rfl
            refine pure_ (i := 19) (N := some 33) (v := ?_) (a' := ?_) #[true,true,true,true,true,true,true,true,true,true,true,true,true,true,true,true,true,true,true,true,false,false,false,false,false,false,false,false,false,false,false,false,false,false,false,false,false] rfl rfl (by kernel_rfl) (fun _ _ _ h => h) (Or.inl ⟨by rfl, ?_⟩) ?_ ?_
            rotate_left
            · intro w'
              go_simp
              with_reducible rfl
            rotate_left
            · simp only [Act.put, zA, zB, zC, i64_w, i32_w]
              rfl
            refine pure_ (i := 20) (N := some 34) (v := ?_) (a' := ?_) #[true,true,true,true,true,true,true,true,true,true,true,true,true,true,true,true,true,true,true,true,true,false,false,false,false,false,false,false,false,false,false,false,false,false,false,false,false] rfl rfl (by kernel_rfl) (fun _ _ _ h => h) (Or.inl ⟨by rfl, ?_⟩) ?_ ?_
            rotate_left
            · intro w'
              go_simp
              with_reducible rfl
            rotate_left
            · simp only [Act.put, zA, zB, zC, i64_w, i32_w]
              rfl
            refine pure_ (i := 21) (N := some 35) (v := ?_) (a' := ?_) #[true,true,true,true,true,true,true,true,true,true,true,true,true,true,true,true,true,true,true,true,true,true,false,false,false,false,false,false,false,false,false,false,false,false,false,false,false] rfl rfl (by kernel_rfl) (fun _ _ _ h => h) (Or.inl ⟨by rfl, ?_⟩) ?_ ?_
            rotate_left
            · intro w'
              go_simp
              with_reducible rfl
            rotate_left
            · simp only [Act.put, zA, zB, zC, i64_w, i32_w]
              rfl
            refine pure_ (i := 22) (N := some 36) (v := undef) (a' := ?_) #[true,true,true,true,true,true,true,true,true,true,true,true,true,true,true,true,true,true,true,true,true,true,true,false,false,false,false,false,false,false,false,false,false,false,false,false,false] rfl rfl (by kernel_rfl) (fun _ _ _ h => h) (Or.inr ⟨by rfl, rfl⟩) ?_ ?_
            rotate_left
            · simp only [Act.put, zA, zB, zC, i64_w, i32_w]
              rfl
            refine pure_ (i := 23) (N := some 37) (v := undef) (a' := ?_) #[true,true,true,true,true,true,true,true,true,true,true,true,true,true,true,true,true,true,true,true,true,true,true,true,false,false,false,false,false,false,false,false,false,false,false,false,false] rfl rfl (by kernel_rfl) (fun _ _ _ h => h) (Or.inr ⟨by rfl, rfl⟩) ?_ ?_
            rotate_left
            · simp only [Act.put, zA, zB, zC, i64_w, i32_w]
              rfl
            refine pure_ (i := 24) (N := some 38) (v := undef) (a' := ?_) #[true,true,true,true,true,true,true,true,true,true,true,true,true,true,true,true,true,true,true,true,true,true,true,true,true,false,false,false,false,false,false,false,false,false,false,false,false] rfl rfl (by kernel_rfl) (fun _ _ _ h => h) (Or.inr ⟨by rfl, rfl⟩) ?_ ?_
            rotate_left
            · simp only [Act.put, zA, zB, zC, i64_w, i32_w]
              rfl
            refine pure_ (i := 25) (N := some 39) (v := undef) (a' := ?_) #[true,true,true,true,true,true,true,true,true,true,true,true,true,true,true,true,true,true,true,true,true,true,true,true,true,true,false,false,false,false,false,false,false,false,false,false,false] rfl rfl (by kernel_rfl) (fun _ _ _ h => h) (Or.inr ⟨by rfl, rfl⟩) ?_ ?_
            rotate_left
            · simp only [Act.put, zA, zB, zC, i64_w, i32_w]
              rfl
            refine pure_ (i := 26) (N := some 40) (v := undef) (a' := ?_) #[true,true,true,true,true,true,true,true,true,true,true,true,true,true,true,true,true,true,true,true,true,true,true,true,true,true,true,false,false,false,false,false,false,false,false,false,false] rfl rfl (by kernel_rfl) (fun _ _ _ h => h) (Or.inr ⟨by rfl, rfl⟩) ?_ ?_
            rotate_left
            · simp only [Act.put, zA, zB, zC, i64_w, i32_w]
              rfl
            refine pure_ (i := 27) (N := some 41) (v := undef) (a' := ?_) #[true,true,true,true,true,true,true,true,true,true,true,true,true,true,true,true,true,true,true,true,true,true,true,true,true,true,true,true,false,false,false,false,false,false,false,false,false] rfl rfl (by kernel_rfl) (fun _ _ _ h => h) (Or.inr ⟨by rfl, rfl⟩) ?_ ?_
            rotate_left
            · simp only [Act.put, zA, zB, zC, i64_w, i32_w]
              rfl
            refine pure_ (i := 28) (N := some 42) (v := undef) (a' := ?_) #[true,true,true,true,true,true,true,true,true,true,true,true,true,true,true,true,true,true,true,true,true,true,true,true,true,true,true,true,true,false,false,false,false,false,false,false,false] rfl rfl (by kernel_rfl) (fun _ _ _ h => h) (Or.inr ⟨by rfl, rfl⟩) ?_ ?_
            rotate_left
            · simp only [Act.put, zA, zB, zC, i64_w, i32_w]
              rfl
            refine pure_ (i := 29) (N := some 43) (v := undef) (a' := ?_) #[true,true,true,true,true,true,true,true,true,true,true,true,true,true,true,true,true,true,true,true,true,true,true,true,true,true,true,true,true,true,false,false,false,false,false,false,false] rfl rfl (by kernel_rfl) (fun _ _ _ h => h) (Or.inr ⟨by rfl, rfl⟩) ?_ ?_
            rotate_left
            · simp only [Act.put, zA, zB, zC, i64_w, i32_w]
              rfl
            refine pure_ (i := 30) (N := some 44) (v := undef) (a' := ?_) #[true,true,true,true,true,true,true,true,true,true,true,true,true,true,true,true,true,true,true,true,true,true,true,true,true,true,true,true,true,true,true,false,false,false,false,false,false] rfl rfl (by kernel_rfl) (fun _ _ _ h => h) (Or.inr ⟨by rfl, rfl⟩) ?_ ?_
            rotate_left
            · simp only [Act.put, zA, zB, zC, i64_w, i32_w]
              rfl
            refine pure_ (i := 31) (N := some 45) (v := undef) (a' := ?_) #[true,true,true,true,true,true,true,true,true,true,true,true,true,true,true,true,true,true,true,true,true,true,true,true,true,true,true,true,true,true,true,true,false,false,false,false,false] rfl rfl (by kernel_rfl) (fun _ _ _ h => h) (Or.inr ⟨by rfl, rfl⟩) ?_ ?_
            rotate_left
            · simp only [Act.put, zA, zB, zC, i64_w, i32_w]
              rfl
            refine pure_ (i := 32) (N := some 46) (v := undef) (a' := ?_) #[true,true,true,true,true,true,true,true,true,true,true,true,true,true,true,true,true,true,true,true,true,true,true,true,true,true,true,true,true,true,true,true,true,false,false,false,false] rfl rfl (by kernel_rfl) (fun _ _ _ h => h) (Or.inr ⟨by rfl, rfl⟩) ?_ ?_
            rotate_left
            · simp only [Act.put, zA, zB, zC, i64_w, i32_w]
              rfl
            refine pure_ (i := 33) (N := some 47) (v := undef) (a' := ?_) #[true,true,true,true,true,true,true,true,true,true,true,true,true,true,true,true,true,true,true,true,true,true,true,true,true,true,true,true,true,true,true,true,true,true,false,false,false] rfl rfl (by kernel_rfl) (fun _ _ _ h => h) (Or.inr ⟨by rfl, rfl⟩) ?_ ?_
            rotate_left
            · simp only [Act.put, zA, zB, zC, i64_w, i32_w]
              rfl
            refine pure_ (i := 34) (N := some 48) (v := undef) (a' := ?_) #[true,true,true,true,true,true,true,true,true,true,true,true,true,true,true,true,true,true,true,true,true,true,true,true,true,true,true,true,true,true,true,true,true,true,true,false,false] rfl rfl (by kernel_rfl) (fun _ _ _ h => h) (Or.inr ⟨by rfl, rfl⟩) ?_ ?_
            rotate_left
            · simp only [Act.put, zA, zB, zC, i64_w, i32_w]
              rfl
            refine pure_ (i := 35) (N := some 49) (v := undef) (a' := ?_) #[true,true,true,true,true,true,true,true,true,true,true,true,true,true,true,true,true,true,true,true,true,true,true,true,true,true,true,true,true,true,true,true,true,true,true,true,false] rfl rfl (by kernel_rfl) (fun _ _ _ h => h) (Or.inr ⟨by rfl, rfl⟩) ?_ ?_
            rotate_left
            · simp only [Act.put, zA, zB, zC, i64_w, i32_w]
              rfl
            refine pure_ (i := 36) (N := some 50) (v := ?_) (a' := ?_) #[true,true,true,true,true,true,true,true,true,true,true,true,true,true,true,true,true,true,true,true,true,true,true,true,true,true,true,true,true,true,true,true,true,true,true,true,true] rfl rfl (by kernel_rfl) (fun _ _ _ h => h) (Or.inl ⟨by rfl, ?_⟩) ?_ ?_
            rotate_left
            · intro w'
              go_simp
              with_reducible rfl
            rotate_left
            · simp only [Act.put, zA, zB, zC, i64_w, i32_w]
              rfl
            refine done_ (by kernel_rfl) ?_
            go_wp2
            go_ret
            rw [HG.out, HFIN.out]
            exact ⟨rfl, below_drew HBR.out⟩
          · have hd5 : (x == (i : Int)) = false := beq_eq_false_iff_ne.2 h3
            by_cases h4 : x ≤ y
            · have hd7 : decide (x ≤ y) = true := decide_eq_true h4
              have HFIN : Aside0 ((decide (y < x) && (decide (x < (n : Int)) && (decide (x ≠ (i : Int)) && goNeeds n i x (ns.drop (k + 1))))) = false) := ⟨by rw [decide_eq_false (p := y < x) (by omega)]; rfl⟩
              clear h1 h2 h3 h4
              go_wp2
              refine start_ (n := 37) (S := fun w' => w'.cell? (ad.add k) = some (.int .i64 x) ∧ w'.cell? (ad.add (k - 1)) = some (.int .i64 y)) (ds := []) #[false,false,false,false,false,false,false,false,false,false,false,false,false,false,false,false,false,false,false,false,false,false,false,false,false,false,false,false,false,false,false,false,false,false,false,false,false] (by kernel_rfl) rfl rfl ⟨(by go_keep), (by go_keep)⟩ (fun hHeld => ?_)
              refine pure_ (i := 0) (N := some 14) (v := ?_) (a' := ?_) #[true,false,false,false,false,false,false,false,false,false,false,false,false,false,false,false,false,false,false,false,false,false,false,false,false,false,false,false,false,false,false,false,false,false,false,false,false] rfl rfl (by kernel_rfl) (fun _ _ _ h => h) (Or.inl ⟨by rfl, ?_⟩) ?_ ?_
              rotate_left
              · intro w'
                go_simp
                with_reducible rfl
              rotate_left
              · simp only [Act.put, zA, zB, zC, i64_w, i32_w]
                rfl
              refine pure_ (i := 1) (N := some 15) (v := ?_) (a' := ?_) #[true,true,false,false,false,false,false,false,false,false,false,false,false,false,false,false,false,false,false,false,false,false,false,false,false,false,false,false,false,false,false,false,false,false,false,false,false] rfl rfl (by kernel_rfl) (fun _ _ _ h => h) (Or.inl ⟨by rfl, ?_⟩) ?_ ?_
              rotate_left
              · intro w'
                go_simp
                with_reducible rfl
              rotate_left
              · simp only [Act.put, zA, zB, zC, i64_w, i32_w]
                rfl
              refine pure_ (i := 2) (N := some 16) (v := ?_) (a' := ?_) #[true,true,true,false,false,false,false,false,false,false,false,false,false,false,false,false,false,false,false,false,false,false,false,false,false,false,false,false,false,false,false,false,false,false,false,false,false] rfl rfl (by kernel_rfl) (fun _ _ _ h => h) (Or.inl ⟨by rfl, ?_⟩) ?_ ?_
              rotate_left
              · intro w'
                go_simp
                with_reducible rfl
              rotate_left
              · simp only [Act.put, zA, zB, zC, i64_w, i32_w]
                rfl
              refine take_ (i := 3) (N := some 17) (v := ?_) (a' := ?_) #[true,true,true,true,false,false,false,false,false,false,false,false,false,false,false,false,false,false,false,false,false,false,false,false,false,false,false,false,false,false,false,false,false,false,false,false,false] rfl rfl (by kernel_rfl) (fun _ _ _ h => h) (Or.inl ⟨by rfl, ?_⟩) hHeld ?_ ?_
              rotate_left
              · rintro w' ⟨s0, s1⟩
                go_simp
                with_reducible rfl
              rotate_left
              · simp only [Act.put, zA, zB, zC, i64_w, i32_w]
                rfl
              refine pure_ (i := 4) (N := some 18) (v := ?_) (a' := ?_) #[true,true,true,true,true,false,false,false,false,false,false,false,false,false,false,false,false,false,false,false,false,false,false,false,false,false,false,false,false,false,false,false,false,false,false,false,false] rfl rfl (by kernel_rfl) (fun _ _ _ h => h) (Or.inl ⟨by rfl, ?_⟩) ?_ ?_
              rotate_left
              · intro w'
                go_simp
                with_reducible rfl
              rotate_left
              · simp only [Act.put, zA, zB, zC, i64_w, i32_w]
                rfl
              refine pure_ (i := 5) (N := some 19) (v := ?_) (a' := ?_) #[true,true,true,true,true,true,false,false,false,false,false,false,false,false,false,false,false,false,false,false,false,false,false,false,false,false,false,false,false,false,false,false,false,false,false,false,false] rfl rfl (by kernel_rfl) (fun _ _ _ h => h) (Or.inl ⟨by rfl, ?_⟩) ?_ ?_
              rotate_left
              · intro w'
                go_simp
                with_reducible rfl
              rotate_left
              · simp only [Act.put, zA, zB, zC, i64_w, i32_w]
                rfl
              refine pure_ (i := 6) (N := some 20) (v := ?_) (a' := ?_) #[true,true,true,true,true,true,true,false,false,false,false,false,false,false,false,false,false,false,false,false,false,false,false,false,false,false,false,false,false,false,false,false,false,false,false,false,false] rfl rfl (by kernel_rfl) (fun _ _ _ h => h) (Or.inl ⟨by rfl, ?_⟩) ?_ ?_
              rotate_left
              · intro w'
                go_simp
                with_reducible rfl
              rotate_left
              · simp only [Act.put, zA, zB, zC, i64_w, i32_w]
                rfl
              refine pure_ (i := 7) (N := some 21) (v := ?_) (a' := ?_) #[true,true,true,true,true,true,true,true,false,false,false,false,false,false,false,false,false,false,false,false,false,false,false,false,false,false,false,false,false,false,false,false,false,false,false,false,false] rfl rfl (by kernel_rfl) (fun _ _ _ h => h) (Or.inl ⟨by rfl, ?_⟩) ?_ ?_
              rotate_left
              · intro w'
                go_simp
                with_reducible rfl
              rotate_left
              · simp only [Act.put, zA, zB, zC, i64_w, i32_w]
                rfl
              refine pure_ (i := 8) (N := some 22) (v := ?_) (a' := ?_) #[true,true,true,true,true,true,true,true,true,false,false,false,false,false,false,false,false,false,false,false,false,false,false,false,false,false,false,false,false,false,false,false,false,false,false,false,false] rfl rfl (by kernel_rfl) (fun _ _ _ h => h) (Or.inl ⟨by rfl, ?_⟩) ?_ ?_
              rotate_left
              · intro w'
                go_simp
                with_reducible rfl
              rotate_left
              · simp only [Act.put, zA, zB, zC, i64_w, i32_w]
                rfl
              refine pure_ (i := 10) (N := some 24) (v := ?_) (a' := ?_) #[true,true,true,true,true,true,true,true,true,false,true,false,false,false,false,false,false,false,false,false,false,false,false,false,false,false,false,false,false,false,false,false,false,false,false,false,false] rfl rfl (by kernel_rfl) (fun _ _ _ h => h) (Or.inl ⟨by rfl, ?_⟩) ?_ ?_
              rotate_left
              · intro w'
                go_simp
                with_reducible rfl
              rotate_left
              · simp only [Act.put, zA, zB, zC, i64_w, i32_w]
                rfl
              refine take_ (i := 9) (N := some 23) (v := ?_) (a' := ?_) #[true,true,true,true,true,true,true,true,true,true,true,false,false,false,false,false,false,false,false,false,false,false,false,false,false,false,false,false,false,false,false,false,false,false,false,false,false] rfl rfl (by kernel_rfl) (fun _ _ _ h => h) (Or.inl ⟨by rfl, ?_⟩) hHeld ?_ ?_
              rotate_left
              · rintro w' ⟨s0, s1⟩
                go_simp
                with_reducible rfl
              rotate_left
              · simp only [Act.put, zA, zB, zC, i64_w, i32_w]
                rfl
              refine pure_ (i := 11) (N := some 25) (v := ?_) (a' := ?_) #[true,true,true,true,true,true,true,true,true,true,true,true,false,false,false,false,false,false,false,false,false,false,false,false,false,false,false,false,false,false,false,false,false,false,false,false,false] rfl rfl (by kernel_rfl) (fun _ _ _ h => h) (Or.inl ⟨by rfl, ?_⟩) ?_ ?_
              rotate_left
              · intro w'
                go_simp
                with_reducible rfl
              rotate_left
              · simp only [Act.put, zA, zB, zC, i64_w, i32_w]
                rfl
              refine pure_ (i := 12) (N := some 26) (v := ?_) (a' := ?_) #[true,true,true,true,true,true,true,true,true,true,true,true,true,false,false,false,false,false,false,false,false,false,false,false,false,false,false,false,false,false,false,false,false,false,false,false,false] rfl rfl (by kernel_rfl) (fun _ _ _ h => h) (Or.inl ⟨by rfl, ?_⟩) ?_ ?_
              rotate_left
              · intro w'
                go_simp
                with_reducible rfl
              rotate_left
              · simp only [Act.put, zA, zB, zC, i64_w, i32_w]
                rfl
              refine pure_ (i := 13) (N := some 27) (v := ?_) (a' := ?_) #[true,true,true,true,true,true,true,true,true,true,true,true,true,true,false,false,false,false,false,false,false,false,false,false,false,false,false,false,false,false,false,false,false,false,false,false,false] rfl rfl (by kernel_rfl) (fun _ _ _ h => h) (Or.inl ⟨by rfl, ?_⟩) ?_ ?_
              rotate_left
              · intro w'
                go_simp
                with_reducible rfl
              rotate_left
              · simp only [Act.put, zA, zB, zC, i64_w, i32_w]
                rfl
              refine pure_ (i := 14) (N := some 28) (v := ?_) (a' := ?_) #[true,true,true,true,true,true,true,true,true,true,true,true,true,true,true,false,false,false,false,false,false,false,false,false,false,false,false,false,false,false,false,false,false,false,false,false,false] rfl rfl (by kernel_rfl) (fun _ _ _ h => h) (Or.inl ⟨by rfl, ?_⟩) ?_ ?_
              rotate_left
              · intro w'
                go_simp
                with_reducible rfl
              rotate_left
              · simp only [Act.put, zA, zB, zC, i64_w, i32_w]
                rfl
              refine pure_ (i := 15) (N := some 29) (v := ?_) (a' := ?_) #[true,true,true,true,true,true,true,true,true,true,true,true,true,true,true,true,false,false,false,false,false,false,false,false,false,false,false,false,false,false,false,false,false,false,false,false,false] rfl rfl (by kernel_rfl) (fun _ _ _ h => h) (Or.inl ⟨by rfl, ?_⟩) ?_ ?_
              rotate_left
              · intro w'
                go_simp
                with_reducible rfl
              rotate_left
              · simp only [Act.put, zA, zB, zC, i64_w, i32_w]
                rfl
              refine pure_ (i := 16) (N := some 30) (v := ?_) (a' := ?_) #[true,true,true,true,true,true,true,true,true,true,true,true,true,true,true,true,true,false,false,false,false,false,false,false,false,false,false,false,false,false,false,false,false,false,false,false,false] rfl rfl (by kernel_rfl) (fun _ _ _ h => h) (Or.inl ⟨by rfl, ?_⟩) ?_ ?_
              rotate_left
              · intro w'
                go_simp
                with_reducible rfl
              rotate_left
              · simp only [Act.put, zA, zB, zC, i64_w, i32_w]
                rfl
              refine pure_ (i := 18) (N := some 32) (v := ?_) (a' := ?_) #[true,true,true,true,true,true,true,true,true,true,true,true,true,true,true,true,true,false,true,false,false,false,false,false,false,false,false,false,false,false,false,false,false,false,false,false,false] rfl rfl (by kernel_rfl) (fun _ _ _ h => h) (Or.inl ⟨by rfl, ?_⟩) ?_ ?_
              rotate_left
              · intro w'
                go_simp
                with_reducible rfl
              rotate_left
              · simp only [Act.put, zA, zB, zC, i64_w, i32_w]
                rfl
              refine take_ (i := 17) (N := some 31) (v := ?_) (a' := ?_) #[true,true,true,true,true,true,true,true,true,true,true,true,true,true,true,true,true,true,true,false,false,false,false,false,false,false,false,false,false,false,false,false,false,false,false,false,false] rfl rfl (by kernel_rfl) (fun _ _ _ h => h) (Or.inl ⟨by rfl, ?_⟩) hHeld ?_ ?_
              rotate_left
              · rintro w' ⟨s0, s1⟩
                go_simp
                with_reducible rfl
              rotate_left
              · simp only [Act.put, zA, zB, zC, i64_w, i32_w]
                rfl
              refine pure_ (i := 19) (N := some 33) (v := ?_) (a' := ?_) #[true,true,true,true,true,true,true,true,true,true,true,true,true,true,true,true,true,true,true,true,false,false,false,false,false,false,false,false,false,false,false,false,false,false,false,false,false] rfl rfl (by kernel_rfl) (fun _ _ _ h => h) (Or.inl ⟨by rfl, ?_⟩) ?_ ?_
              rotate_left
              · intro w'
                go_simp
                with_reducible rfl
              rotate_left
              · simp only [Act.put, zA, zB, zC, i64_w, i32_w]
                rfl
              refine pure_ (i := 20) (N := some 34) (v := ?_) (a' := ?_) #[true,true,true,true,true,true,true,true,true,true,true,true,true,true,true,true,true,true,true,true,true,false,false,false,false,false,false,false,false,false,false,false,false,false,false,false,false] rfl rfl (by kernel_rfl) (fun _ _ _ h => h) (Or.inl ⟨by rfl, ?_⟩) ?_ ?_
              rotate_left
              · intro w'
                go_simp
                with_reducible rfl
              rotate_left
              · simp only [Act.put, zA, zB, zC, i64_w, i32_w]
                rfl
              refine pure_ (i := 21) (N := some 35) (v := ?_) (a' := ?_) #[true,true,true,true,true,true,true,true,true,true,true,true,true,true,true,true,true,true,true,true,true,true,false,false,false,false,false,false,false,false,false,false,false,false,false,false,false] rfl rfl (by kernel_rfl) (fun _ _ _ h => h) (Or.inl ⟨by rfl, ?_⟩) ?_ ?_
              rotate_left
              · intro w'
                go_simp
                with_reducible rfl
              rotate_left
              · simp only [Act.put, zA, zB, zC, i64_w, i32_w]
                rfl
              refine pure_ (i := 22) (N := some 36) (v := ?_) (a' := ?_) #[true,true,true,true,true,true,true,true,true,true,true,true,true,true,true,true,true,true,true,true,true,true,true,false,false,false,false,false,false,false,false,false,false,false,false,false,false] rfl rfl (by kernel_rfl) (fun _ _ _ h => h) (Or.inl ⟨by rfl, ?_⟩) ?_ ?_
              rotate_left
              · intro w'
                go_simp
                with_reducible rfl
              rotate_left
              · simp only [Act.put, zA, zB, zC, i64_w, i32_w]
                rfl
              refine pure_ (i := 23) (N := some 37) (v := ?_) (a' := ?_) #[true,true,true,true,true,true,true,true,true,true,true,true,true,true,true,true,true,true,true,true,true,true,true,true,false,false,false,false,false,false,false,false,false,false,false,false,false] rfl rfl (by kernel_rfl) (fun _ _ _ h => h) (Or.inl ⟨by rfl, ?_⟩) ?_ ?_
              rotate_left
              · intro w'
                go_simp
                with_reducible rfl
              rotate_left
              · simp only [Act.put, zA, zB, zC, i64_w, i32_w]
                rfl
              refine pure_ (i := 24) (N := some 38) (v := ?_) (a' := ?_) #[true,true,true,true,true,true,true,true,true,true,true,true,true,true,true,true,true,true,true,true,true,true,true,true,true,false,false,false,false,false,false,false,false,false,false,false,false] rfl rfl (by kernel_rfl) (fun _ _ _ h => h) (Or.inl ⟨by rfl, ?_⟩) ?_ ?_
              rotate_left
              · intro w'
                go_simp
                with_reducible rfl
              rotate_left
              · simp only [Act.put, zA, zB, zC, i64_w, i32_w]
                rfl
              refine pure_ (i := 25) (N := some 39) (v := ?_) (a' := ?_) #[true,true,true,true,true,true,true,true,true,true,true,true,true,true,true,true,true,true,true,true,true,true,true,true,true,true,false,false,false,false,false,false,false,false,false,false,false] rfl rfl (by kernel_rfl) (fun _ _ _ h => h) (Or.inl ⟨by rfl, ?_⟩) ?_ ?_
              rotate_left
              · intro w'
                go_simp
                with_reducible rfl
              rotate_left
              · simp only [Act.put, zA, zB, zC, i64_w, i32_w]
                rfl
              refine pure_ (i := 26) (N := some 40) (v := ?_) (a' := ?_) #[true,true,true,true,true,true,true,true,true,true,true,true,true,true,true,true,true,true,true,true,true,true,true,true,true,true,true,false,false,false,false,false,false,false,false,false,false] rfl rfl (by kernel_rfl) (fun _ _ _ h => h) (Or.inl ⟨by rfl, ?_⟩) ?_ ?_
              rotate_left
              · intro w'
                go_simp
                with_reducible rfl
              rotate_left
              · simp only [Act.put, zA, zB, zC, i64_w, i32_w]
                rfl
              refine pure_ (i := 27) (N := some 41) (v := ?_) (a' := ?_) #[true,true,true,true,true,true,true,true,true,true,true,true,true,true,true,true,true,true,true,true,true,true,true,true,true,true,true,true,false,false,false,false,false,false,false,false,false] rfl rfl (by kernel_rfl) (fun _ _ _ h => h) (Or.inl ⟨by rfl, ?_⟩) ?_ ?_
              rotate_left
              · intro w'
                go_simp
                with_reducible rfl
              rotate_left
              · simp only [Act.put, zA, zB, zC, i64_w, i32_w]
                rfl
              refine pure_ (i := 28) (N := some 42) (v := ?_) (a' := ?_) #[true,true,true,true,true,true,true,true,true,true,true,true,true,true,true,true,true,true,true,true,true,true,true,true,true,true,true,true,true,false,false,false,false,false,false,false,false] rfl rfl (by kernel_rfl) (fun _ _ _ h => h) (Or.inl ⟨by rfl, ?_⟩) ?_ ?_
              rotate_left
              · intro w'
                go_simp
                with_reducible rfl
              rotate_left
              · simp only [Act.put, zA, zB, zC, i64_w, i32_w]
                rfl
              refine pure_ (i := 30) (N := some 44) (v := ?_) (a' := ?_) #[true,true,true,true,true,true,true,true,true,true,true,true,true,true,true,true,true,true,true,true,true,true,true,true,true,true,true,true,true,false,true,false,false,false,false,false,false] rfl rfl (by kernel_rfl) (fun _ _ _ h => h) (Or.inl ⟨by rfl, ?_⟩) ?_ ?_
              rotate_left
              · intro w'
                go_simp
                with_reducible rfl
              rotate_left
              · simp only [Act.put, zA, zB, zC, i64_w, i32_w]
                rfl
              refine pure_ (i := 31) (N := some 45) (v := ?_) (a' := ?_) #[true,true,true,true,true,true,true,true,true,true,true,true,true,true,true,true,true,true,true,true,true,true,true,true,true,true,true,true,true,false,true,true,false,false,false,false,false] rfl rfl (by kernel_rfl) (fun _ _ _ h => h) (Or.inl ⟨by rfl, ?_⟩) ?_ ?_
              rotate_left
              · intro w'
                go_simp
                with_reducible rfl
              rotate_left
              · simp only [Act.put, zA, zB, zC, i64_w, i32_w]
                rfl
              refine pure_ (i := 32) (N := some 46) (v := ?_) (a' := ?_) #[true,true,true,true,true,true,true,true,true,true,true,true,true,true,true,true,true,true,true,true,true,true,true,true,true,true,true,true,true,false,true,true,true,false,false,false,false] rfl rfl (by kernel_rfl) (fun _ _ _ h => h) (Or.inl ⟨by rfl, ?_⟩) ?_ ?_
              rotate_left
              · intro w'
                go_simp
                with_reducible rfl
              rotate_left
              · simp only [Act.put, zA, zB, zC, i64_w, i32_w]
                rfl
              refine take_ (i := 29) (N := some 43) (v := ?_) (a' := ?_) #[true,true,true,true,true,true,true,true,true,true,true,true,true,true,true,true,true,true,true,true,true,true,true,true,true,true,true,true,true,true,true,true,true,false,false,false,false] rfl rfl (by kernel_rfl) (fun _ _ _ h => h) (Or.inl ⟨by rfl, ?_⟩) hHeld ?_ ?_
              rotate_left
              · rintro w' ⟨s0, s1⟩
                go_simp
                with_reducible rfl
              rotate_left
              · simp only [Act.put, zA, zB, zC, i64_w, i32_w]
                rfl
              refine take_ (i := 33) (N := some 47) (v := ?_) (a' := ?_) #[true,true,true,true,true,true,true,true,true,true,true,true,true,true,true,true,true,true,true,true,true,true,true,true,true,true,true,true,true,true,true,true,true,true,false,false,false] rfl rfl (by kernel_rfl) (fun _ _ _ h => h) (Or.inl ⟨by rfl, ?_⟩) hHeld ?_ ?_
              rotate_left
              · rintro w' ⟨s0, s1⟩
                go_simp
                with_reducible rfl
              rotate_left
              · simp only [Act.put, zA, zB, zC, i64_w, i32_w]
                rfl
              refine pure_ (i := 34) (N := some 48) (v := ?_) (a' := ?_) #[true,true,true,true,true,true,true,true,true,true,true,true,true,true,true,true,true,true,true,true,true,true,true,true,true,true,true,true,true,true,true,true,true,true,true,false,false] rfl rfl (by kernel_rfl) (fun _ _ _ h => h) (Or.inl ⟨by rfl, ?_⟩) ?_ ?_
              rotate_left
              · intro w'
                go_simp
                with_reducible rfl
              rotate_left
              · simp only [Act.put, zA, zB, zC, i64_w, i32_w]
                rfl
              refine pure_ (i := 35) (N := some 49) (v := ?_) (a' := ?_) #[true,true,true,true,true,true,true,true,true,true,true,true,true,true,true,true,true,true,true,true,true,true,true,true,true,true,true,true,true,true,true,true,true,true,true,true,false] rfl rfl (by kernel_rfl) (fun _ _ _ h => h) (Or.inl ⟨by rfl, ?_⟩) ?_ ?_
              rotate_left
              · intro w'
                go_simp
                with_reducible rfl
              rotate_left
              · simp only [Act.put, zA, zB, zC, i64_w, i32_w]
                rfl
              refine pure_ (i := 36) (N := some 50) (v := ?_) (a' := ?_) #[true,true,true,true,true,true,true,true,true,true,true,true,true,true,true,true,true,true,true,true,true,true,true,true,true,true,true,true,true,true,true,true,true,true,true,true,true] rfl rfl (by kernel_rfl) (fun _ _ _ h => h) (Or.inl ⟨by rfl, ?_⟩) ?_ ?_
              rotate_left
              · intro w'
                go_simp
                with_reducible rfl
              rotate_left
              · simp only [Act.put, zA, zB, zC, i64_w, i32_w]
                rfl
              refine done_ (by kernel_rfl) ?_
              go_wp2
              go_ret
              rw [HG.out, HFIN.out]
              exact ⟨rfl, below_drew HBR.out⟩
            · have hd7 : decide (x ≤ y) = false := decide_eq_false h4
              have HFIN : Aside0 ((decide (y < x) && (decide (x < (n : Int)) && (decide (x ≠ (i : Int)) && goNeeds n i x (ns.drop (k + 1))))) = goNeeds n i (lastOf ns (k + 1)) (ns.drop (k + 1))) := ⟨by rw [HL.out, decide_eq_true (p := x ≠ (i : Int)) h3, decide_eq_true (p := x < (n : Int)) (by omega), decide_eq_true (show y < x by omega)]; rfl⟩
              have HP : Aside0 (0 < k + 1 → 0 ≤ lastOf ns (k + 1)) := ⟨fun _ => by rw [HL.out]; omega⟩
              clear h1 h2 h3 h4
              go_wp2
              refine start_ (n := 37) (S := fun w' => w'.cell? (ad.add k) = some (.int .i64 x) ∧ w'.cell? (ad.add (k - 1)) = some (.int .i64 y)) (ds := []) #[false,false,false,false,false,false,false,false,false,false,false,false,false,false,false,false,false,false,false,false,false,false,false,false,false,false,false,false,false,false,false,false,false,false,false,false,false] (by kernel_rfl) rfl rfl ⟨(by go_keep), (by go_keep)⟩ (fun hHeld => ?_)
              refine pure_ (i := 0) (N := some 14) (v := ?_) (a' := ?_) #[true,false,false,false,false,false,false,false,false,false,false,false,false,false,false,false,false,false,false,false,false,false,false,false,false,false,false,false,false,false,false,false,false,false,false,false,false] rfl rfl (by kernel_rfl) (fun _ _ _ h => h) (Or.inl ⟨by rfl, ?_⟩) ?_ ?_
              rotate_left
              · intro w'
                go_simp
                with_reducible rfl
              rotate_left
              · simp only [Act.put, zA, zB, zC, i64_w, i32_w]
                rfl
              refine pure_ (i := 1) (N := some 15) (v := ?_) (a' := ?_) #[true,true,false,false,false,false,false,false,false,false,false,false,false,false,false,false,false,false,false,false,false,false,false,false,false,false,false,false,false,false,false,false,false,false,false,false,false] rfl rfl (by kernel_rfl) (fun _ _ _ h => h) (Or.inl ⟨by rfl, ?_⟩) ?_ ?_
              rotate_left
              · intro w'
                go_simp
                with_reducible rfl
              rotate_left
              · simp only [Act.put, zA, zB, zC, i64_w, i32_w]
                rfl
              refine pure_ (i := 2) (N := some 16) (v := ?_) (a' := ?_) #[true,true,true,false,false,false,false,false,false,false,false,false,false,false,false,false,false,false,false,false,false,false,false,false,false,false,false,false,false,false,false,false,false,false,false,false,false] rfl rfl (by kernel_rfl) (fun _ _ _ h => h) (Or.inl ⟨by rfl, ?_⟩) ?_ ?_
              rotate_left
              · intro w'
                go_simp
                with_reducible rfl
              rotate_left
              · simp only [Act.put, zA, zB, zC, i64_w, i32_w]
                rfl
              refine take_ (i := 3) (N := some 17) (v := ?_) (a' := ?_) #[true,true,true,true,false,false,false,false,false,false,false,false,false,false,false,false,false,false,false,false,false,false,false,false,false,false,false,false,false,false,false,false,false,false,false,false,false] rfl rfl (by kernel_rfl) (fun _ _ _ h => h) (Or.inl ⟨by rfl, ?_⟩) hHeld ?_ ?_
              rotate_left
              · rintro w' ⟨s0, s1⟩
                go_simp
                with_reducible rfl
              rotate_left
              · simp only [Act.put, zA, zB, zC, i64_w, i32_w]
                rfl
              refine pure_ (i := 4) (N := some 18) (v := ?_) (a' := ?_) #[true,true,true,true,true,false,false,false,false,false,false,false,false,false,false,false,false,false,false,false,false,false,false,false,false,false,false,false,false,false,false,false,false,false,false,false,false] rfl rfl (by kernel_rfl) (fun _ _ _ h => h) (Or.inl ⟨by rfl, ?_⟩) ?_ ?_
              rotate_left
              · intro w'
                go_simp
                with_reducible rfl
              rotate_left
              · simp only [Act.put, zA, zB, zC, i64_w, i32_w]
                rfl
              refine pure_ (i := 5) (N := some 19) (v := ?_) (a' := ?_) #[true,true,true,true,true,true,false,false,false,false,false,false,false,false,false,false,false,false,false,false,false,false,false,false,false,false,false,false,false,false,false,false,false,false,false,false,false] rfl rfl (by kernel_rfl) (fun _ _ _ h => h) (Or.inl ⟨by rfl, ?_⟩) ?_ ?_
              rotate_left
              · intro w'
                go_simp
                with_reducible rfl
              rotate_left
              · simp only [Act.put, zA, zB, zC, i64_w, i32_w]
                rfl
              refine pure_ (i := 6) (N := some 20) (v := ?_) (a' := ?_) #[true,true,true,true,true,true,true,false,false,false,false,false,false,false,false,false,false,false,false,false,false,false,false,false,false,false,false,false,false,false,false,false,false,false,false,false,false] rfl rfl (by kernel_rfl) (fun _ _ _ h => h) (Or.inl ⟨by rfl, ?_⟩) ?_ ?_
              rotate_left
              · intro w'
                go_simp
                with_reducible rfl
              rotate_left
              · simp only [Act.put, zA, zB, zC, i64_w, i32_w]
                rfl
              refine pure_ (i := 7) (N := some 21) (v := ?_) (a' := ?_) #[true,true,true,true,true,true,true,true,false,false,false,false,false,false,false,false,false,false,false,false,false,false,false,false,false,false,false,false,false,false,false,false,false,false,false,false,false] rfl rfl (by kernel_rfl) (fun _ _ _ h => h) (Or.inl ⟨by rfl, ?_⟩) ?_ ?_
              rotate_left
              · intro w'
                go_simp
                with_reducible rfl
              rotate_left
              · simp only [Act.put, zA, zB, zC, i64_w, i32_w]
                rfl
              refine pure_ (i := 8) (N := some 22) (v := ?_) (a' := ?_) #[true,true,true,true,true,true,true,true,true,false,false,false,false,false,false,false,false,false,false,false,false,false,false,false,false,false,false,false,false,false,false,false,false,false,false,false,false] rfl rfl (by kernel_rfl) (fun _ _ _ h => h) (Or.inl ⟨by rfl, ?_⟩) ?_ ?_
              rotate_left
              · intro w'
                go_simp
                with_reducible rfl
              rotate_left
              · simp only [Act.put, zA, zB, zC, i64_w, i32_w]
                rfl
              refine pure_ (i := 10) (N := some 24) (v := ?_) (a' := ?_) #[true,true,true,true,true,true,true,true,true,false,true,false,false,false,false,false,false,false,false,false,false,false,false,false,false,false,false,false,false,false,false,false,false,false,false,false,false] rfl rfl (by kernel_rfl) (fun _ _ _ h => h) (Or.inl ⟨by rfl, ?_⟩) ?_ ?_
              rotate_left
              · intro w'
                go_simp
                with_reducible rfl
              rotate_left
              · simp only [Act.put, zA, zB, zC, i64_w, i32_w]
                rfl
              refine take_ (i := 9) (N := some 23) (v := ?_) (a' := ?_) #[true,true,true,true,true,true,true,true,true,true,true,false,false,false,false,false,false,false,false,false,false,false,false,false,false,false,false,false,false,false,false,false,false,false,false,false,false] rfl rfl (by kernel_rfl) (fun _ _ _ h => h) (Or.inl ⟨by rfl, ?_⟩) hHeld ?_ ?_
              rotate_left
              · rintro w' ⟨s0, s1⟩
                go_simp
                with_reducible rfl
              rotate_left
              · simp only [Act.put, zA, zB, zC, i64_w, i32_w]
                rfl
              refine pure_ (i := 11) (N := some 25) (v := ?_) (a' := ?_) #[true,true,true,true,true,true,true,true,true,true,true,true,false,false,false,false,false,false,false,false,false,false,false,false,false,false,false,false,false,false,false,false,false,false,false,false,false] rfl rfl (by kernel_rfl) (fun _ _ _ h => h) (Or.inl ⟨by rfl, ?_⟩) ?_ ?_
              rotate_left
              · intro w'
                go_simp
                with_reducible rfl
              rotate_left
              · simp only [Act.put, zA, zB, zC, i64_w, i32_w]
                rfl
              refine pure_ (i := 12) (N := some 26) (v := ?_) (a' := ?_) #[true,true,true,true,true,true,true,true,true,true,true,true,true,false,false,false,false,false,false,false,false,false,false,false,false,false,false,false,false,false,false,false,false,false,false,false,false] rfl rfl (by kernel_rfl) (fun _ _ _ h => h) (Or.inl ⟨by rfl, ?_⟩) ?_ ?_
              rotate_left
              · intro w'
                go_simp
                with_reducible rfl
              rotate_left
              · simp only [Act.put, zA, zB, zC, i64_w, i32_w]
                rfl
              refine pure_ (i := 13) (N := some 27) (v := ?_) (a' := ?_) #[true,true,true,true,true,true,true,true,true,true,true,true,true,true,false,false,false,false,false,false,false,false,false,false,false,false,false,false,false,false,false,false,false,false,false,false,false] rfl rfl (by kernel_rfl) (fun _ _ _ h => h) (Or.inl ⟨by rfl, ?_⟩) ?_ ?_
              rotate_left
              · intro w'
                go_simp
                with_reducible rfl
              rotate_left
              · simp only [Act.put, zA, zB, zC, i64_w, i32_w]
                rfl
              refine pure_ (i := 14) (N := some 28) (v := ?_) (a' := ?_) #[true,true,true,true,true,true,true,true,true,true,true,true,true,true,true,false,false,false,false,false,false,false,false,false,false,false,false,false,false,false,false,false,false,false,false,false,false] rfl rfl (by kernel_rfl) (fun _ _ _ h => h) (Or.inl ⟨by rfl, ?_⟩) ?_ ?_
              rotate_left
              · intro w'
                go_simp
                with_reducible rfl
              rotate_left
              · simp only [Act.put, zA, zB, zC, i64_w, i32_w]
                rfl
              refine pure_ (i := 15) (N := some 29) (v := ?_) (a' := ?_) #[true,true,true,true,true,true,true,true,true,true,true,true,true,true,true,true,false,false,false,false,false,false,false,false,false,false,false,false,false,false,false,false,false,false,false,false,false] rfl rfl (by kernel_rfl) (fun _ _ _ h => h) (Or.inl ⟨by rfl, ?_⟩) ?_ ?_
              rotate_left
              · intro w'
                go_simp
                with_reducible rfl
              rotate_left
              · simp only [Act.put, zA, zB, zC, i64_w, i32_w]
                rfl
              refine pure_ (i := 16) (N := some 30) (v := ?_) (a' := ?_) #[true,true,true,true,true,true,true,true,true,true,true,true,true,true,true,true,true,false,false,false,false,false,false,false,false,false,false,false,false,false,false,false,false,false,false,false,false] rfl rfl (by kernel_rfl) (fun _ _ _ h => h) (Or.inl ⟨by rfl, ?_⟩) ?_ ?_
              rotate_left
              · intro w'
                go_simp
                with_reducible rfl
              rotate_left
              · simp only [Act.put, zA, zB, zC, i64_w, i32_w]
                rfl
              refine pure_ (i := 18) (N := some 32) (v := ?_) (a' := ?_) #[true,true,true,true,true,true,true,true,true,true,true,true,true,true,true,true,true,false,true,false,false,false,false,false,false,false,false,false,false,false,false,false,false,false,false,false,false] rfl rfl (by kernel_rfl) (fun _ _ _ h => h) (Or.inl ⟨by rfl, ?_⟩) ?_ ?_
              rotate_left
              · intro w'
                go_simp
                with_reducible rfl
              rotate_left
              · simp only [Act.put, zA, zB, zC, i64_w, i32_w]
                rfl
              refine take_ (i := 17) (N := some 31) (v := ?_) (a' := ?_) #[true,true,true,true,true,true,true,true,true,true,true,true,true,true,true,true,true,true,true,false,false,false,false,false,false,false,false,false,false,false,false,false,false,false,false,false,false] rfl rfl (by kernel_rfl) (fun _ _ _ h => h) (Or.inl ⟨by rfl, ?_⟩) hHeld ?_ ?_
              rotate_left
              · rintro w' ⟨s0, s1⟩
                go_simp
                with_reducible rfl
              rotate_left
              · simp only [Act.put, zA, zB, zC, i64_w, i32_w]
                rfl
              refine pure_ (i := 19) (N := some 33) (v := ?_) (a' := ?_) #[true,true,true,true,true,true,true,true,true,true,true,true,true,true,true,true,true,true,true,true,false,false,false,false,false,false,false,false,false,false,false,false,false,false,false,false,false] rfl rfl (by kernel_rfl) (fun _ _ _ h => h) (Or.inl ⟨by rfl, ?_⟩) ?_ ?_
              rotate_left
              · intro w'
                go_simp
                with_reducible rfl
              rotate_left
              · simp only [Act.put, zA, zB, zC, i64_w, i32_w]
                rfl
              refine pure_ (i := 20) (N := some 34) (v := ?_) (a' := ?_) #[true,true,true,true,true,true,true,true,true,true,true,true,true,true,true,true,true,true,true,true,true,false,false,false,false,false,false,false,false,false,false,false,false,false,false,false,false] rfl rfl (by kernel_rfl) (fun _ _ _ h => h) (Or.inl ⟨by rfl, ?_⟩) ?_ ?_
              rotate_left
              · intro w'
                go_simp
                with_reducible rfl
              rotate_left
              · simp only [Act.put, zA, zB, zC, i64_w, i32_w]
                rfl
              refine pure_ (i := 21) (N := some 35) (v := ?_) (a' := ?_) #[true,true,true,true,true,true,true,true,true,true,true,true,true,true,true,true,true,true,true,true,true,true,false,false,false,false,false,false,false,false,false,false,false,false,false,false,false] rfl rfl (by kernel_rfl) (fun _ _ _ h => h) (Or.inl ⟨by rfl, ?_⟩) ?_ ?_
              rotate_left
              · intro w'
                go_simp
                with_reducible rfl
              rotate_left
              · simp only [Act.put, zA, zB, zC, i64_w, i32_w]
                rfl
              refine pure_ (i := 22) (N := some 36) (v := ?_) (a' := ?_) #[true,true,true,true,true,true,true,true,true,true,true,true,true,true,true,true,true,true,true,true,true,true,true,false,false,false,false,false,false,false,false,false,false,false,false,false,false] rfl rfl (by kernel_rfl) (fun _ _ _ h => h) (Or.inl ⟨by rfl, ?_⟩) ?_ ?_
              rotate_left
              · intro w'
                go_simp
                with_reducible rfl
              rotate_left
              · simp only [Act.put, zA, zB, zC, i64_w, i32_w]
                rfl
              refine pure_ (i := 23) (N := some 37) (v := ?_) (a' := ?_) #[true,true,true,true,true,true,true,true,true,true,true,true,true,true,true,true,true,true,true,true,true,true,true,true,false,false,false,false,false,false,false,false,false,false,false,false,false] rfl rfl (by kernel_rfl) (fun _ _ _ h => h) (Or.inl ⟨by rfl, ?_⟩) ?_ ?_
              rotate_left
              · intro w'
                go_simp
                with_reducible rfl
              rotate_left
              · simp only [Act.put, zA, zB, zC, i64_w, i32_w]
                rfl
              refine pure_ (i := 24) (N := some 38) (v := ?_) (a' := ?_) #[true,true,true,true,true,true,true,true,true,true,true,true,true,true,true,true,true,true,true,true,true,true,true,true,true,false,false,false,false,false,false,false,false,false,false,false,false] rfl rfl (by kernel_rfl) (fun _ _ _ h => h) (Or.inl ⟨by rfl, ?_⟩) ?_ ?_
              rotate_left
              · intro w'
                go_simp
                with_reducible rfl
              rotate_left
              · simp only [Act.put, zA, zB, zC, i64_w, i32_w]
                rfl
              refine pure_ (i := 25) (N := some 39) (v := ?_) (a' := ?_) #[true,true,true,true,true,true,true,true,true,true,true,true,true,true,true,true,true,true,true,true,true,true,true,true,true,true,false,false,false,false,false,false,false,false,false,false,false] rfl rfl (by kernel_rfl) (fun _ _ _ h => h) (Or.inl ⟨by rfl, ?_⟩) ?_ ?_
              rotate_left
              · intro w'
                go_simp
                with_reducible rfl
              rotate_left
              · simp only [Act.put, zA, zB, zC, i64_w, i32_w]
                rfl
              refine pure_ (i := 26) (N := some 40) (v := ?_) (a' := ?_) #[true,true,true,true,true,true,true,true,true,true,true,true,true,true,true,true,true,true,true,true,true,true,true,true,true,true,true,false,false,false,false,false,false,false,false,false,false] rfl rfl (by kernel_rfl) (fun _ _ _ h => h) (Or.inl ⟨by rfl, ?_⟩) ?_ ?_
              rotate_left
              · intro w'
                go_simp
                with_reducible rfl
              rotate_left
              · simp only [Act.put, zA, zB, zC, i64_w, i32_w]
                rfl
              refine pure_ (i := 27) (N := some 41) (v := ?_) (a' := ?_) #[true,true,true,true,true,true,true,true,true,true,true,true,true,true,true,true,true,true,true,true,true,true,true,true,true,true,true,true,false,false,false,false,false,false,false,false,false] rfl rfl (by kernel_rfl) (fun _ _ _ h => h) (Or.inl ⟨by rfl, ?_⟩) ?_ ?_
              rotate_left
              · intro w'
                go_simp
                with_reducible rfl
              rotate_left
              · simp only [Act.put, zA, zB, zC, i64_w, i32_w]
                rfl
              refine pure_ (i := 28) (N := some 42) (v := ?_) (a' := ?_) #[true,true,true,true,true,true,true,true,true,true,true,true,true,true,true,true,true,true,true,true,true,true,true,true,true,true,true,true,true,false,false,false,false,false,false,false,false] rfl rfl (by kernel_rfl) (fun _ _ _ h => h) (Or.inl ⟨by rfl, ?_⟩) ?_ ?_
              rotate_left
              · intro w'
                go_simp
                with_reducible rfl
              rotate_left
              · simp only [Act.put, zA, zB, zC, i64_w, i32_w]
                rfl
              refine pure_ (i := 30) (N := some 44) (v := ?_) (a' := ?_) #[true,true,true,true,true,true,true,true,true,true,true,true,true,true,true,true,true,true,true,true,true,true,true,true,true,true,true,true,true,false,true,false,false,false,false,false,false] rfl rfl (by kernel_rfl) (fun _ _ _ h => h) (Or.inl ⟨by rfl, ?_⟩) ?_ ?_
              rotate_left
              · intro w'
                go_simp
                with_reducible rfl
              rotate_left
              · simp only [Act.put, zA, zB, zC, i64_w, i32_w]
                rfl
              refine pure_ (i := 31) (N := some 45) (v := ?_) (a' := ?_) #[true,true,true,true,true,true,true,true,true,true,true,true,true,true,true,true,true,true,true,true,true,true,true,true,true,true,true,true,true,false,true,true,false,false,false,false,false] rfl rfl (by kernel_rfl) (fun _ _ _ h => h) (Or.inl ⟨by rfl, ?_⟩) ?_ ?_
              rotate_left
              · intro w'
                go_simp
                with_reducible rfl
              rotate_left
              · simp only [Act.put, zA, zB, zC, i64_w, i32_w]
                rfl
              refine pure_ (i := 32) (N := some 46) (v := ?_) (a' := ?_) #[true,true,true,true,true,true,true,true,true,true,true,true,true,true,true,true,true,true,true,true,true,true,true,true,true,true,true,true,true,false,true,true,true,false,false,false,false] rfl rfl (by kernel_rfl) (fun _ _ _ h => h) (Or.inl ⟨by rfl, ?_⟩) ?_ ?_
              rotate_left
              · intro w'
                go_simp
                with_reducible rfl
              rotate_left
              · simp only [Act.put, zA, zB, zC, i64_w, i32_w]
                rfl
              refine take_ (i := 29) (N := some 43) (v := ?_) (a' := ?_) #[true,true,true,true,true,true,true,true,true,true,true,true,true,true,true,true,true,true,true,true,true,true,true,true,true,true,true,true,true,true,true,true,true,false,false,false,false] rfl rfl (by kernel_rfl) (fun _ _ _ h => h) (Or.inl ⟨by rfl, ?_⟩) hHeld ?_ ?_
              rotate_left
              · rintro w' ⟨s0, s1⟩
                go_simp
                with_reducible rfl
              rotate_left
              · simp only [Act.put, zA, zB, zC, i64_w, i32_w]
                rfl
              refine take_ (i := 33) (N := some 47) (v := ?_) (a' := ?_) #[true,true,true,true,true,true,true,true,true,true,true,true,true,true,true,true,true,true,true,true,true,true,true,true,true,true,true,true,true,true,true,true,true,true,false,false,false] rfl rfl (by kernel_rfl) (fun _ _ _ h => h) (Or.inl ⟨by rfl, ?_⟩) hHeld ?_ ?_
              rotate_left
              · rintro w' ⟨s0, s1⟩
                go_simp
                with_reducible rfl
              rotate_left
              · simp only [Act.put, zA, zB, zC, i64_w, i32_w]
                rfl
              refine pure_ (i := 34) (N := some 48) (v := ?_) (a' := ?_) #[true,true,true,true,true,true,true,true,true,true,true,true,true,true,true,true,true,true,true,true,true,true,true,true,true,true,true,true,true,true,true,true,true,true,true,false,false] rfl rfl (by kernel_rfl) (fun _ _ _ h => h) (Or.inl ⟨by rfl, ?_⟩) ?_ ?_
              rotate_left
              · intro w'
                go_simp
                with_reducible rfl
              rotate_left
              · simp only [Act.put, zA, zB, zC, i64_w, i32_w]
                rfl
              refine pure_ (i := 35) (N := some 49) (v := ?_) (a' := ?_) #[true,true,true,true,true,true,true,true,true,true,true,true,true,true,true,true,true,true,true,true,true,true,true,true,true,true,true,true,true,true,true,true,true,true,true,true,false] rfl rfl (by kernel_rfl) (fun _ _ _ h => h) (Or.inl ⟨by rfl, ?_⟩) ?_ ?_
              rotate_left
              · intro w'
                go_simp
                with_reducible rfl
              rotate_left
              · simp only [Act.put, zA, zB, zC, i64_w, i32_w]
                rfl
              refine pure_ (i := 36) (N := some 50) (v := ?_) (a' := ?_) #[true,true,true,true,true,true,true,true,true,true,true,true,true,true,true,true,true,true,true,true,true,true,true,true,true,true,true,true,true,true,true,true,true,true,true,true,true] rfl rfl (by kernel_rfl) (fun _ _ _ h => h) (Or.inl ⟨by rfl, ?_⟩) ?_ ?_
              rotate_left
              · intro w'
                go_simp
                with_reducible rfl
              rotate_left
              · simp only [Act.put, zA, zB, zC, i64_w, i32_w]
                rfl
              refine done_ (by kernel_rfl) ?_
              go_wp2
              go_roundw
              case rel => exact ⟨k + 1, hlt, by go_num, by rw [HG.out]; exact HFIN.out, HP.out, below_drew HBR.out⟩
              case measure => simp [intOf]; omega
  · have hi' : k = ns.length := by omega
    have hd2 : decide ((k : Int) < (ns.length : Int)) = false := decide_eq_false (by omega)
    go_wp2
    go_ret
    rw [HG.out, hi', List.drop_length]
    exact ⟨rfl, HBR.out⟩
end Go.Proofs.YthlgcibckakhbaaGreatDoor.Pl

/- odysseyref11.alone: the walk, by hand. -/
namespace Go.Proofs.YthlgcibckakhbaaGreatDoor.Pl
open Go.RowKit Go.IntWalk Go.Proofs.YthlgcibckakhbaaGreatDoorW.PrintWords Go.Proofs.YthlgcibckakhbaaGreatDoor.PlName

set_option maxHeartbeats 8000000 in
set_option maxRecDepth 100000 in
theorem aloneR_calls (nm : ByteArray) (l : List Step) (A : Option Addr) (c : Nat) (i : Nat) (s : Step) (w : World) (hi : l[i]? = some s) (hS : StepsAt w A l) (hb : StepB s) (hn : l.length ≤ 8) (hc : l.length ≤ c) :
 Calls Tryz.prog 57 #[.agg #[.string nm, .slice A l.length c], .int .i64 (i : Int)] w fun e w' => e = .returned (.int .i64 (aloneE l i s)) ∧ Below w.heap.size w w' := by
 obtain ⟨ad, rfl, A1, c1, A2, c2, h1⟩ := hS.one hi
 have hil : i < l.length := (List.getElem?_eq_some_iff.1 hi).1
 have hse : stepAt l i = s := by
  have := stepAt_eq hil
  rw [hi] at this
  exact (Option.some.inj this).symm
 have hbb := below_one w (.cells #[.string nm, .slice (some ad) l.length c] 24)
 obtain ⟨hq0, hq1, hq2, hq3, hq4, _, _, _, _⟩ := h1.below hbb
 have HW := Aside0.mk (Alo.start w nm (.slice (some ad) l.length c) s (.slice A1 s.keys.length c1) (.slice A2 s.needs.length c2))
 have HC53 : Aside0 (∀ W, Calls Tryz.prog 56 #[.string s.name] W fun e w' => e = .returned (.bool (Nm.isName s.name)) ∧ Below W.heap.size W w') := ⟨fun W => isR_calls _ W (by have := hb.1; omega)⟩
 have HC69 : Aside0 (∀ W, Below w.heap.size w W → Calls Tryz.prog 75 #[.agg #[.string nm, .slice (some ad) l.length c], .int .i64 (i : Int)] W fun e w' => e = .returned (.bool (twice l i s)) ∧ Below W.heap.size W w') :=
  ⟨fun W hW => by have := twiceR_calls nm l ad c i W (hS.below hW) hil hn; rw [hse] at this; exact this⟩
 have HC71 : Aside0 (∀ W, Below w.heap.size w W → Calls Tryz.prog 76 #[.agg #[.string s.name, .int .i64 s.kind, .int .i64 s.part, .slice A1 s.keys.length c1, .slice A2 s.needs.length c2]] W fun e w' => e = .returned (.bool (keysOk s)) ∧ Below W.heap.size W w') :=
  ⟨fun W hW => keysR_calls s A1 c1 _ s.needs.length c2 A2 W rfl (Kd.C_below h1.keys hW) hb.2.2.2.1.1 hb.2.2.2.1.2⟩
 have HC72 : Aside0 (∀ W, Below w.heap.size w W → Calls Tryz.prog 77 #[.slice A2 s.needs.length c2, .int .i64 (i : Int), .int .i64 (l.length : Int)] W fun e w' => e = .returned (.bool (needsOk l.length i s.needs)) ∧ Below W.heap.size W w') :=
  ⟨fun W hW => needsR_calls A2 c2 s.needs l.length i W (Kd.C_below h1.needs hW) hb.2.2.2.2.2 hn hil⟩
 have HF := Aside0.mk (aloneE_B l i s)
 have hpe : decide (3 < s.part) = decide (4 ≤ s.part) := decide_eq_decide.2 (by omega)
 clear h1 hS hb hbb hi hse
 generalize aloneE l i s = r at *
 generalize Nm.isName s.name = bn at *
 generalize twice l i s = bt at *
 generalize keysOk s = bk at *
 generalize needsOk l.length i s.needs = bd at *
 generalize hd1 : decide (s.kind < 1) = b1 at *
 generalize hd2 : decide (3 < s.kind) = b2 at *
 generalize hd3 : decide (s.part < 0) = b3 at *
 generalize hd4 : decide (4 ≤ s.part) = b4 at *
 go_enter Tryz.func57, Tryz.ntmps57
 rcases alone_ways bn bt b1 b2 b3 b4 bk bd with rfl | ⟨rfl, rfl⟩ | ⟨rfl, rfl, rfl⟩ | ⟨rfl, rfl, rfl, rfl⟩ | ⟨rfl, rfl, rfl, rfl, rfl⟩ | ⟨rfl, rfl, rfl, rfl, rfl, rfl⟩ | ⟨rfl, rfl, rfl, rfl, rfl, rfl, rfl⟩ | ⟨rfl, rfl, rfl, rfl, rfl, rfl, rfl, rfl⟩ | ⟨rfl, rfl, rfl, rfl, rfl, rfl, rfl, rfl⟩
 all_goals
  go_wp2_with (first | (go_at_call 56; refine (HC53.out _).mono ?_; rintro e w3 ⟨rfl, hb3⟩; have H3 := Aside0.mk (HW.out.on hb3); clear hb3; obtain ⟨a30, a31, a32, a33, a34, d30, d31⟩ := H3.out.cells) | (go_at_call 75; refine (HC69.out _ H3.out.below).mono ?_; rintro e w4 ⟨rfl, hb4⟩; have H4 := Aside0.mk (H3.out.on hb4); clear hb4; obtain ⟨a40, a41, a42, a43, a44, d40, d41⟩ := H4.out.cells) | (go_at_call 76; refine (HC71.out _ H4.out.below).mono ?_; rintro e w5 ⟨rfl, hb5⟩; have H5 := Aside0.mk (H4.out.on hb5); clear hb5; obtain ⟨a50, a51, a52, a53, a54, d50, d51⟩ := H5.out.cells) | (go_at_call 77; refine (HC72.out _ H5.out.below).mono ?_; rintro e w6 ⟨rfl, hb6⟩; have H6 := Aside0.mk (H5.out.on hb6); clear hb6; obtain ⟨a60, a61, a62, a63, a64, d60, d61⟩ := H6.out.cells))
  go_ret
  rw [HF.out]
  exact ⟨rfl, H6.out.below⟩

/-- Orders, over a step of which something is so. -/
theorem any_take {α : Type} {p : α → Bool} {l : List α} {k : Nat} (h : ∀ j (hj : j < k) (hl : j < l.length), p l[j] = false) (hk : l.length ≤ k) : l.any p = false := by
 rw [List.any_eq_false]
 intro x hx
 obtain ⟨j, hj, e⟩ := List.getElem_of_mem hx
 rw [← e, h j (by omega) hj]
 simp
theorem any_hit {α : Type} {p : α → Bool} {l : List α} {k : Nat} (hk : k < l.length) (h : p l[k] = true) : l.any p = true := by
 rw [List.any_eq_true]
 exact ⟨_, List.getElem_mem hk, h⟩
end Go.Proofs.YthlgcibckakhbaaGreatDoor.Pl

/- odysseyref11.order: the walk, by hand. -/
namespace Go.Proofs.YthlgcibckakhbaaGreatDoor.Pl
open Go.RowKit Go.IntWalk Go.Proofs.YthlgcibckakhbaaGreatDoorW.PrintWords Go.Proofs.YthlgcibckakhbaaGreatDoorW.PrintLast Go.Proofs.YthlgcibckakhbaaGreatDoorW.PrintMore Go.Proofs.YthlgcibckakhbaaGreatDoor.PlName

set_option maxHeartbeats 8000000 in
set_option maxRecDepth 100000 in
theorem orderR_calls (nm : ByteArray) (l : List Step) (ad : Addr) (c : Nat) (i : Nat) (w : World) (hS : StepsAt w (some ad) l) (hi : i < l.length) (hin : Within l (stepAt l i) ∧ (stepAt l i).needs.length ≤ 8) :
 Calls Tryz.prog 78 #[.agg #[.string nm, .slice (some ad) l.length c], .int .i64 (i : Int)] w fun e w' => e = .returned (.bool (ordersBad l i)) ∧ Below w.heap.size w w' := by
 obtain ⟨_, e1, A1, c1, A2, c2, h1⟩ := hS.one (stepAt_eq hi)
 cases e1
 have hbb := below_one w (.cells #[.string nm, .slice (some ad) l.length c] 24)
 obtain ⟨hq0, hq1, hq2, hq3, hq4, _, _, _, _⟩ := h1.below hbb
 have HW := Aside0.mk (Alo.start w nm (.slice (some ad) l.length c) (stepAt l i) (.slice A1 (stepAt l i).keys.length c1) (.slice A2 (stepAt l i).needs.length c2))
 have HA := Aside0.mk (And.intro hS (And.intro h1.needs hin.1))
 have hn8 := hin.2
 have HF : Aside0 (ordersBad l i = ((stepAt l i).kind != 3 && (stepAt l i).needs.any fun x => (stepAt l x.toNat).kind != 1)) := ⟨rfl⟩
 clear h1 hbb hin hS
 generalize ordersBad l i = rr at *
 generalize stepAt l i = s at *
 go_enter Tryz.func78, Tryz.ntmps78
 cases hk3 : (s.kind != 3)
 · rw [hk3, Bool.false_and] at HF
   go_wp2
   generalize hW : World.alloc (World.alloc w _) _ = w0 at *
   obtain ⟨a0, a1, a2, a3, a4, d0, d1⟩ := HW.out.cells
   go_loopw [6] (fun v6 wr => v6 = .int .i64 0 ∧ wr = w0) (fun _ _ => 0)
   case atStart => exact ⟨rfl, rfl⟩
   case round =>
    obtain ⟨rfl, rfl⟩ := hrel
    by_cases hl : s.needs.length = 0
    · have hd : decide (0 < (s.needs.length : Int)) = false := decide_eq_false (by omega)
      have hdn : decide (0 < s.needs.length) = false := decide_eq_false (by omega)
      clear hl
      go_wp2
      go_ret
      rw [HF.out]
      exact ⟨rfl, HW.out.below⟩
    · have hd : decide (0 < (s.needs.length : Int)) = true := decide_eq_true (by omega)
      have hdn : decide (0 < s.needs.length) = true := decide_eq_true (by omega)
      clear hl
      go_wp2
      go_ret
      rw [HF.out]
      exact ⟨rfl, HW.out.below⟩
 · rw [hk3, Bool.true_and] at HF
   go_wp2
   generalize hW : World.alloc (World.alloc w _) _ = w0 at *
   clear hq0 hq1 hq2 hq3 hq4
   go_loopw [6] (fun v6 wr => ∃ k : Nat, k ≤ s.needs.length ∧ v6 = .int .i64 (k : Int) ∧ (∀ j (hj : j < k) (hl : j < s.needs.length), ((stepAt l s.needs[j].toNat).kind != 1) = false) ∧ Alo w wr nm (.slice (some ad) l.length c) s (.slice A1 s.keys.length c1) (.slice A2 s.needs.length c2)) (fun v6 _ => s.needs.length - (intOf v6).toNat)
   case atStart => exact ⟨0, Nat.zero_le _, rfl, fun j hj => absurd hj (Nat.not_lt_zero _), HW.out⟩
   case round =>
    obtain ⟨k, hk, rfl, hal, hA⟩ := hrel
    have HG := Aside0.mk (And.intro hal hA)
    obtain ⟨a0, a1, a2, a3, a4, d0, d1⟩ := hA.cells
    clear hal hA
    by_cases hlt : k < s.needs.length
    · have hd2 : decide ((k : Int) < (s.needs.length : Int)) = true := decide_eq_true (by omega)
      obtain ⟨an, rfl, hx⟩ := int_at HA.out.2.1 hlt
      replace hx := cell_on HG.out.2.below hx
      obtain ⟨hx0, hx1⟩ := HA.out.2.2 _ (List.getElem_mem hlt)
      obtain ⟨m, hm⟩ : ∃ m : Nat, s.needs[k] = (m : Int) := ⟨s.needs[k].toNat, by omega⟩
      have hml : m < l.length := by omega
      rw [hm] at hx
      have hms : stepAt l s.needs[k].toNat = stepAt l m := by rw [hm]; rfl
      have HMS := Aside0.mk hms
      clear hx0 hx1 hms
      obtain ⟨_, e1, B1, b1, B2, b2, h2⟩ := HA.out.1.one (stepAt_eq hml)
      cases e1
      have hkd := (h2.below HG.out.2.below).c1_
      have HM := Aside0.mk hm
      clear h2 hm
      cases hbad : ((stepAt l m).kind != 1)
      · go_wp2
        refine start_ (n := 11) (S := fun w' => w'.cell? ⟨w.heap.size, 1, none⟩ = some (.slice (some ad) l.length c) ∧ w'.cell? ⟨w.heap.size + 1, 4, none⟩ = some (.slice (some an) s.needs.length c2) ∧ w'.cell? (an.add k) = some (.int .i64 (m : Int)) ∧ w'.cell? ⟨(ad.add (m * 5)).block, (ad.add (m * 5)).off + 1, none⟩ = some (.int .i64 (stepAt l m).kind)) (ds := []) #[false,false,false,false,false,false,false,false,false,false,false] (by kernel_rfl) rfl rfl ⟨(by go_keep), (by go_keep), (by go_keep), (by go_keep)⟩ (fun hHeld => ?_)
        refine pure_ (i := 0) (N := some 24) (v := ?_) (a' := ?_) #[true,false,false,false,false,false,false,false,false,false,false] rfl rfl (by kernel_rfl) (fun _ _ _ h => h) (Or.inl ⟨by rfl, ?_⟩) ?_ ?_
        rotate_left
        · intro w'
          go_simp
          with_reducible rfl
        rotate_left
        · simp only [Act.put, zA, zB, zC, i64_w, i32_w]
          rfl
        refine pure_ (i := 2) (N := some 26) (v := ?_) (a' := ?_) #[true,false,true,false,false,false,false,false,false,false,false] rfl rfl (by kernel_rfl) (fun _ _ _ h => h) (Or.inl ⟨by rfl, ?_⟩) ?_ ?_
        rotate_left
        · intro w'
          go_simp
          with_reducible rfl
        rotate_left
        · simp only [Act.put, zA, zB, zC, i64_w, i32_w]
          rfl
        refine pure_ (i := 4) (N := some 28) (v := ?_) (a' := ?_) #[true,false,true,false,true,false,false,false,false,false,false] rfl rfl (by kernel_rfl) (fun _ _ _ h => h) (Or.inl ⟨by rfl, ?_⟩) ?_ ?_
        rotate_left
        · intro w'
          go_simp
          with_reducible rfl
        rotate_left
        · simp only [Act.put, zA, zB, zC, i64_w, i32_w]
          rfl
        refine take_ (i := 1) (N := some 25) (v := ?_) (a' := ?_) #[true,true,true,false,true,false,false,false,false,false,false] rfl rfl (by kernel_rfl) (fun _ _ _ h => h) (Or.inl ⟨by rfl, ?_⟩) hHeld ?_ ?_
        rotate_left
        · rintro w' ⟨s0, s1, s2, s3⟩
          go_simp
          with_reducible rfl
        rotate_left
        · simp only [Act.put, zA, zB, zC, i64_w, i32_w]
          rfl
        refine take_ (i := 3) (N := some 27) (v := ?_) (a' := ?_) #[true,true,true,true,true,false,false,false,false,false,false] rfl rfl (by kernel_rfl) (fun _ _ _ h => h) (Or.inl ⟨by rfl, ?_⟩) hHeld ?_ ?_
        rotate_left
        · rintro w' ⟨s0, s1, s2, s3⟩
          go_simp
          with_reducible rfl
        rotate_left
        · simp only [Act.put, zA, zB, zC, i64_w, i32_w]
          rfl
        refine pure_ (i := 5) (N := some 29) (v := ?_) (a' := ?_) #[true,true,true,true,true,true,false,false,false,false,false] rfl rfl (by kernel_rfl) (fun _ _ _ h => h) (Or.inl ⟨by rfl, ?_⟩) ?_ ?_
        rotate_left
        · intro w'
          go_simp
          with_reducible rfl
        rotate_left
        · simp only [Act.put, zA, zB, zC, i64_w, i32_w]
          rfl
        refine take_ (i := 6) (N := some 30) (v := ?_) (a' := ?_) #[true,true,true,true,true,true,true,false,false,false,false] rfl rfl (by kernel_rfl) (fun _ _ _ h => h) (Or.inl ⟨by rfl, ?_⟩) hHeld ?_ ?_
        rotate_left
        · rintro w' ⟨s0, s1, s2, s3⟩
          go_simp
          with_reducible rfl
        rotate_left
        · simp only [Act.put, zA, zB, zC, i64_w, i32_w]
          rfl
        refine pure_ (i := 7) (N := some 31) (v := ?_) (a' := ?_) #[true,true,true,true,true,true,true,true,false,false,false] rfl rfl (by kernel_rfl) (fun _ _ _ h => h) (Or.inl ⟨by rfl, ?_⟩) ?_ ?_
        rotate_left
        · intro w'
          go_simp
          with_reducible rfl
        rotate_left
        · simp only [Act.put, zA, zB, zC, i64_w, i32_w]
          rfl
        refine pure_ (i := 8) (N := some 32) (v := ?_) (a' := ?_) #[true,true,true,true,true,true,true,true,true,false,false] rfl rfl (by kernel_rfl) (fun _ _ _ h => h) (Or.inl ⟨by rfl, ?_⟩) ?_ ?_
        rotate_left
        · intro w'
          go_simp
          with_reducible rfl
        rotate_left
        · simp only [Act.put, zA, zB, zC, i64_w, i32_w]
          rfl
        refine take_ (i := 9) (N := some 33) (v := ?_) (a' := ?_) #[true,true,true,true,true,true,true,true,true,true,false] rfl rfl (by kernel_rfl) (fun _ _ _ h => h) (Or.inl ⟨by rfl, ?_⟩) hHeld ?_ ?_
        rotate_left
        · rintro w' ⟨s0, s1, s2, s3⟩
          go_simp
          with_reducible rfl
        rotate_left
        · simp only [Act.put, zA, zB, zC, i64_w, i32_w]
          rfl
        refine pure_ (i := 10) (N := some 34) (v := ?_) (a' := ?_) #[true,true,true,true,true,true,true,true,true,true,true] rfl rfl (by kernel_rfl) (fun _ _ _ h => h) (Or.inl ⟨by rfl, ?_⟩) ?_ ?_
        rotate_left
        · intro w'
          go_simp
          with_reducible rfl
        rotate_left
        · simp only [Act.put, zA, zB, zC, i64_w, i32_w]
          rfl
        refine done_ (by kernel_rfl) ?_
        go_wp2
        go_roundw
        case rel =>
         refine ⟨k + 1, hlt, by go_num, fun j hj hl => ?_, HG.out.2.on (below_drew (Below.refl _ _))⟩
         rcases Nat.lt_succ_iff_lt_or_eq.1 hj with h | h
         · exact HG.out.1 j h hl
         · subst h
           rw [HMS.out]
           exact hbad
        case measure => simp [intOf]; omega
      · have HX : Aside0 (rr = true) := ⟨by rw [HF.out]; exact any_hit hlt (by rw [HMS.out]; exact hbad)⟩
        go_wp2
        refine start_ (n := 11) (S := fun w' => w'.cell? ⟨w.heap.size, 1, none⟩ = some (.slice (some ad) l.length c) ∧ w'.cell? ⟨w.heap.size + 1, 4, none⟩ = some (.slice (some an) s.needs.length c2) ∧ w'.cell? (an.add k) = some (.int .i64 (m : Int)) ∧ w'.cell? ⟨(ad.add (m * 5)).block, (ad.add (m * 5)).off + 1, none⟩ = some (.int .i64 (stepAt l m).kind)) (ds := []) #[false,false,false,false,false,false,false,false,false,false,false] (by kernel_rfl) rfl rfl ⟨(by go_keep), (by go_keep), (by go_keep), (by go_keep)⟩ (fun hHeld => ?_)
        refine pure_ (i := 0) (N := some 24) (v := ?_) (a' := ?_) #[true,false,false,false,false,false,false,false,false,false,false] rfl rfl (by kernel_rfl) (fun _ _ _ h => h) (Or.inl ⟨by rfl, ?_⟩) ?_ ?_
        rotate_left
        · intro w'
          go_simp
          with_reducible rfl
        rotate_left
        · simp only [Act.put, zA, zB, zC, i64_w, i32_w]
          rfl
        refine pure_ (i := 2) (N := some 26) (v := ?_) (a' := ?_) #[true,false,true,false,false,false,false,false,false,false,false] rfl rfl (by kernel_rfl) (fun _ _ _ h => h) (Or.inl ⟨by rfl, ?_⟩) ?_ ?_
        rotate_left
        · intro w'
          go_simp
          with_reducible rfl
        rotate_left
        · simp only [Act.put, zA, zB, zC, i64_w, i32_w]
          rfl
        refine pure_ (i := 4) (N := some 28) (v := ?_) (a' := ?_) #[true,false,true,false,true,false,false,false,false,false,false] rfl rfl (by kernel_rfl) (fun _ _ _ h => h) (Or.inl ⟨by rfl, ?_⟩) ?_ ?_
        rotate_left
        · intro w'
          go_simp
          with_reducible rfl
        rotate_left
        · simp only [Act.put, zA, zB, zC, i64_w, i32_w]
          rfl
        refine take_ (i := 1) (N := some 25) (v := ?_) (a' := ?_) #[true,true,true,false,true,false,false,false,false,false,false] rfl rfl (by kernel_rfl) (fun _ _ _ h => h) (Or.inl ⟨by rfl, ?_⟩) hHeld ?_ ?_
        rotate_left
        · rintro w' ⟨s0, s1, s2, s3⟩
          go_simp
          with_reducible rfl
        rotate_left
        · simp only [Act.put, zA, zB, zC, i64_w, i32_w]
          rfl
        refine take_ (i := 3) (N := some 27) (v := ?_) (a' := ?_) #[true,true,true,true,true,false,false,false,false,false,false] rfl rfl (by kernel_rfl) (fun _ _ _ h => h) (Or.inl ⟨by rfl, ?_⟩) hHeld ?_ ?_
        rotate_left
        · rintro w' ⟨s0, s1, s2, s3⟩
          go_simp
          with_reducible rfl
        rotate_left
        · simp only [Act.put, zA, zB, zC, i64_w, i32_w]
          rfl
        refine pure_ (i := 5) (N := some 29) (v := ?_) (a' := ?_) #[true,true,true,true,true,true,false,false,false,false,false] rfl rfl (by kernel_rfl) (fun _ _ _ h => h) (Or.inl ⟨by rfl, ?_⟩) ?_ ?_
        rotate_left
        · intro w'
          go_simp
          with_reducible rfl
        rotate_left
        · simp only [Act.put, zA, zB, zC, i64_w, i32_w]
          rfl
        refine take_ (i := 6) (N := some 30) (v := ?_) (a' := ?_) #[true,true,true,true,true,true,true,false,false,false,false] rfl rfl (by kernel_rfl) (fun _ _ _ h => h) (Or.inl ⟨by rfl, ?_⟩) hHeld ?_ ?_
        rotate_left
        · rintro w' ⟨s0, s1, s2, s3⟩
          go_simp
          with_reducible rfl
        rotate_left
        · simp only [Act.put, zA, zB, zC, i64_w, i32_w]
          rfl
        refine pure_ (i := 7) (N := some 31) (v := ?_) (a' := ?_) #[true,true,true,true,true,true,true,true,false,false,false] rfl rfl (by kernel_rfl) (fun _ _ _ h => h) (Or.inl ⟨by rfl, ?_⟩) ?_ ?_
        rotate_left
        · intro w'
          go_simp
          with_reducible rfl
        rotate_left
        · simp only [Act.put, zA, zB, zC, i64_w, i32_w]
          rfl
        refine pure_ (i := 8) (N := some 32) (v := ?_) (a' := ?_) #[true,true,true,true,true,true,true,true,true,false,false] rfl rfl (by kernel_rfl) (fun _ _ _ h => h) (Or.inl ⟨by rfl, ?_⟩) ?_ ?_
        rotate_left
        · intro w'
          go_simp
          with_reducible rfl
        rotate_left
        · simp only [Act.put, zA, zB, zC, i64_w, i32_w]
          rfl
        refine take_ (i := 9) (N := some 33) (v := ?_) (a' := ?_) #[true,true,true,true,true,true,true,true,true,true,false] rfl rfl (by kernel_rfl) (fun _ _ _ h => h) (Or.inl ⟨by rfl, ?_⟩) hHeld ?_ ?_
        rotate_left
        · rintro w' ⟨s0, s1, s2, s3⟩
          go_simp
          with_reducible rfl
        rotate_left
        · simp only [Act.put, zA, zB, zC, i64_w, i32_w]
          rfl
        refine pure_ (i := 10) (N := some 34) (v := ?_) (a' := ?_) #[true,true,true,true,true,true,true,true,true,true,true] rfl rfl (by kernel_rfl) (fun _ _ _ h => h) (Or.inl ⟨by rfl, ?_⟩) ?_ ?_
        rotate_left
        · intro w'
          go_simp
          with_reducible rfl
        rotate_left
        · simp only [Act.put, zA, zB, zC, i64_w, i32_w]
          rfl
        refine done_ (by kernel_rfl) ?_
        go_wp2
        go_ret
        rw [HX.out]
        exact ⟨rfl, below_drew HG.out.2.below⟩
    · have hd2 : decide ((k : Int) < (s.needs.length : Int)) = false := decide_eq_false (by omega)
      have HX : Aside0 (rr = false) := ⟨by rw [HF.out]; exact any_take HG.out.1 (by omega)⟩
      go_wp2
      go_ret
      rw [HX.out]
      exact ⟨rfl, HG.out.2.below⟩
end Go.Proofs.YthlgcibckakhbaaGreatDoor.Pl

/- odysseyref11.ring: the walk, by hand. -/
namespace Go.Proofs.YthlgcibckakhbaaGreatDoor.Pl
open Go.RowKit Go.IntWalk Go.Proofs.YthlgcibckakhbaaGreatDoorW.PrintWords Go.Proofs.YthlgcibckakhbaaGreatDoor.PlName

/-- What has been met so far: nothing but what is reached. -/
def Sound (l : List Step) (i : Nat) (f : Nat → Bool) : Prop := ∀ x, x < l.length → f x = true → Reach l i x
def Init (l : List Step) (i : Nat) (f : Nat → Bool) : Prop := ∀ x : Nat, (x : Int) ∈ (stepAt l i).needs → f x = true
def Closed (l : List Step) (f : Nat → Bool) : Prop := ∀ k, k < l.length → f k = true → ∀ x : Nat, (x : Int) ∈ (stepAt l k).needs → f x = true
theorem reach_snoc {l : List Step} {i k x : Nat} (h : Reach l i k) (hx : (x : Int) ∈ (stepAt l k).needs) : Reach l i x := by
 induction h with
 | one h => exact .more h (.one hx)
 | more h _ ih => exact .more h (ih hx)
theorem closed_all {l : List Step} {f : Nat → Bool} (hin : ∀ k, k < l.length → Within l (stepAt l k)) (hc : Closed l f) {k x : Nat} (h : Reach l k x) : k < l.length → f k = true → f x = true := by
 induction h with
 | one h => exact fun hk hf => hc _ hk hf _ h
 | more h _ ih =>
  intro hk hf
  have := hin _ hk _ h
  exact ih (by omega) (hc _ hk hf _ h)
theorem ring_answer {l : List Step} {f : Nat → Bool} {i : Nat} (hin : ∀ k, k < l.length → Within l (stepAt l k)) (hi : i < l.length) (hs : Sound l i f) (h0 : Init l i f) (hc : Closed l f) : f i = ringAt l i := by
 refine (ringAt_eq (b := f i) ⟨fun h => hs i hi h, fun h => ?_⟩).symm
 cases h with
 | one h => exact h0 _ h
 | more h h2 =>
  have := hin _ hi _ h
  exact closed_all hin hc h2 (by omega) (h0 _ h)
/-- A round, in its middle. -/
structure Mid (l : List Step) (i : Nat) (f g : Nat → Bool) (k : Nat) : Prop where
 sound : Sound l i g
 le : ∀ x, x < l.length → f x = true → g x = true
 hit : ∀ q, q < k → q < l.length → f q = true → ∀ x : Nat, (x : Int) ∈ (stepAt l q).needs → g x = true
 same : Closed l f → ∀ x, x < l.length → g x = f x
theorem mid_start {l : List Step} {i : Nat} {f : Nat → Bool} (hs : Sound l i f) : Mid l i f f 0 := ⟨hs, fun _ _ h => h, fun q hq => absurd hq (Nat.not_lt_zero _), fun _ _ _ => rfl⟩
theorem mid_end {l : List Step} {i r : Nat} {f g : Nat → Bool} (hin : ∀ k, k < l.length → Within l (stepAt l k)) (h : Mid l i f g l.length) (hf : Closed l f ∨ r ≤ cnt f l.length) (h0 : Init l i f) (hi : i < l.length) : Sound l i g ∧ Init l i g ∧ (Closed l g ∨ r + 1 ≤ cnt g l.length) := by
 refine ⟨h.sound, fun x hx => ?_, ?_⟩
 · have := hin _ hi _ hx
   exact h.le x (by omega) (h0 x hx)
 · by_cases hc : Closed l f
   · left
     intro k hk hg x hx
     have := hin _ hk _ hx
     rw [h.same hc k hk] at hg
     rw [h.same hc x (by omega)]
     exact hc k hk hg x hx
   · right
     rcases hf with hf | hf
     · exact absurd hf hc
     · have h2 : ∃ k x : Nat, k < l.length ∧ f k = true ∧ (x : Int) ∈ (stepAt l k).needs ∧ f x = false := by
        apply Classical.byContradiction
        intro hno
        apply hc
        intro k hk hfk x hx
        cases hfx : f x
        · exact absurd ⟨k, x, hk, hfk, hx, hfx⟩ hno
        · rfl
       obtain ⟨k, x, hk, hfk, hx, hfx⟩ := h2
       have h3 := hin _ hk _ hx
       have := cnt_lt (f := f) (g := g) (k := x) (n := l.length) h.le (by omega) (h.hit k hk hk hfk x hx) hfx
       omega
theorem mid_skip {l : List Step} {i k : Nat} {f g : Nat → Bool} (h : Mid l i f g k) (hk : g k = false) : Mid l i f g (k + 1) := by
 refine ⟨h.sound, h.le, fun q hq hl hf x hx => ?_, h.same⟩
 rcases Nat.lt_succ_iff_lt_or_eq.1 hq with h2 | h2
 · exact h.hit q h2 hl hf x hx
 · subst h2
   rw [h.le q hl hf] at hk
   cases hk
/-- A step's needs, so far. -/
structure Low (l : List Step) (i : Nat) (f g g2 : Nat → Bool) (k j : Nat) : Prop where
 mid : Mid l i f g2 k
 le : ∀ x, x < l.length → g x = true → g2 x = true
 hit : ∀ q (hq : q < j) (hl : q < (stepAt l k).needs.length), g2 (stepAt l k).needs[q].toNat = true
theorem low_step {l : List Step} {i k j m : Nat} {f g g2 : Nat → Bool} (hk : k < l.length) (h : Low l i f g g2 k j) (hgk : g k = true) (hj : j < (stepAt l k).needs.length) (hm : (stepAt l k).needs[j] = (m : Int)) (hml : m < l.length) : Low l i f g (upd g2 m true) k (j + 1) := by
 have hmem : (m : Int) ∈ (stepAt l k).needs := hm ▸ List.getElem_mem hj
 have up : ∀ x, g2 x = true → upd g2 m true x = true := fun x hx => by
  unfold upd
  split
  · rfl
  · exact hx
 refine ⟨⟨fun x hx h2 => ?_, fun x hx h2 => up x (h.mid.le x hx h2), fun q hq hl hf x hx => up x (h.mid.hit q hq hl hf x hx), fun hc x hx => ?_⟩, fun x hx h2 => up x (h.le x hx h2), fun q hq hl => ?_⟩
 · unfold upd at h2
   split at h2
   · rename_i e
     subst e
     exact reach_snoc (h.mid.sound k hk (h.le k hk hgk)) hmem
   · exact h.mid.sound x hx h2
 · unfold upd
   split
   · rename_i e
     subst e
     have h3 := h.mid.same hc k hk
     rw [h.le k hk hgk] at h3
     exact (hc k hk h3.symm x hmem).symm
   · exact h.mid.same hc x hx
 · rcases Nat.lt_succ_iff_lt_or_eq.1 hq with h2 | h2
   · exact up _ (h.hit q h2 hl)
   · subst h2
     rw [hm]
     unfold upd
     simp
theorem low_end {l : List Step} {i k : Nat} {f g g2 : Nat → Bool} (h : Low l i f g g2 k (stepAt l k).needs.length) : Mid l i f g2 (k + 1) := by
 refine ⟨h.mid.sound, h.mid.le, fun q hq hl hf x hx => ?_, h.mid.same⟩
 rcases Nat.lt_succ_iff_lt_or_eq.1 hq with h2 | h2
 · exact h.mid.hit q h2 hl hf x hx
 · subst h2
   obtain ⟨j, hj, e⟩ := List.getElem_of_mem hx
   have := h.hit j hj hj
   rw [e] at this
   exact this
/-- The worlds of ring. -/
structure Rn (w wr : World) (nm : ByteArray) (l : List Step) (ad : Addr) (c : Nat) (f : Nat → Bool) : Prop where
 below : Below w.heap.size w wr
 box : wr.heap[w.heap.size]? = some (.cells #[.string nm, .slice (some ad) l.length c] 24 (0, 0))
 row : wr.heap[w.heap.size + 1]? = some (.cells (rowA f l.length) 4 (0, 0))
theorem Rn.set {w wr : World} {nm : ByteArray} {l : List Step} {ad : Addr} {c : Nat} {f : Nat → Bool} (h : Rn w wr nm l ad c f) (m : Nat) : Rn w (wr.setCell ⟨w.heap.size + 1, m, none⟩ (.bool true)) nm l ad c (upd f m true) :=
 ⟨h.below.setCell (p := ⟨w.heap.size + 1, m, none⟩) (Nat.le_succ _) _, row_setCell_ne h.box _ _ (Nat.ne_of_lt (Nat.lt_succ_self _)), by rw [row_setCell h.row, rowA_set]⟩
theorem Rn.congr {w wr : World} {nm : ByteArray} {l : List Step} {ad : Addr} {c : Nat} {f g : Nat → Bool} (h : Rn w wr nm l ad c f) (he : ∀ x, x < l.length → f x = g x) : Rn w wr nm l ad c g := ⟨h.below, h.box, by rw [h.row, rowA_congr he]⟩

set_option maxHeartbeats 16000000 in
set_option maxRecDepth 100000 in
theorem ringR_calls (nm : ByteArray) (l : List Step) (ad : Addr) (c : Nat) (i : Nat) (w : World) (hS : StepsAt w (some ad) l) (hi : i < l.length) (hl8 : l.length ≤ 8) (hin : ∀ k, k < l.length → Within l (stepAt l k) ∧ (stepAt l k).needs.length ≤ 8) :
 Calls Tryz.prog 79 #[.agg #[.string nm, .slice (some ad) l.length c], .int .i64 (i : Int)] w fun e w' => e = .returned (.bool (ringAt l i)) ∧ Below w.heap.size w w' := by
 have hbb := below_one w (.cells #[.string nm, .slice (some ad) l.length c] 24)
 have hr0 := alloc1 w (.cells #[.string nm, .slice (some ad) l.length c] 24)
 have hq1 := row_cell (j := 1) hr0 rfl
 have hsz : (w.alloc (.cells #[.string nm, .slice (some ad) l.length c] 24)).heap.size = w.heap.size + 1 := by
  show (w.heap.push _).size = _
  simp
 have HW := Aside0.mk (And.intro hbb (And.intro hr0 hsz))
 have HA := Aside0.mk (And.intro hS hin)
 have hlow : w.heap.size ≤ (w.alloc (.cells #[.string nm, .slice (some ad) l.length c] 24)).heap.size := hbb.size
 obtain ⟨i4, hi4, hz4, hs4, hb4⟩ := info_parts bool_info
 have HI := Aside0.mk (And.intro hi4 (And.intro hz4 (And.intro hs4 hb4)))
 clear hbb hr0 hS hin hi4 hz4 hs4 hb4 hsz
 go_enter Tryz.func79, Tryz.ntmps79
 go_wp2_with (first | (at_make; refine wpList_make_full _ rfl (.tmp 12) (.tmp 12) 44 rfl w.heap.size 4 i4 (.bool false) 1 Tryz.underlying44 HI.out.1 HI.out.2.1 HI.out.2.2.1 .i64 .i64 _ _ l.length rfl rfl rfl rfl (by rw [HI.out.2.2.2]; omega) (by unfold maxLen; omega) hlow ?_; intro w3 hown3 hgr3; have HM := Aside0.mk (And.intro hown3 (below_grown (B := (w.alloc (.cells #[.string nm, .slice (some ad) l.length c] 24)).heap.size) hgr3 (Nat.le_refl _) (fun k h => by cases h))); clear hown3 hgr3))
 have HR0 : Aside0 (Rn w w3 nm l ad c (fun _ => false)) := by
  have h1 := HM.out.1
  rw [show (Value.bool false).cells = #[.bool false] from rfl, toList_madeCells_one, Nat.mul_one] at h1
  have h2 := made_row h1 rfl
  rw [HW.out.2.2] at h2
  exact ⟨⟨on_ HW.out.1 HM.out.2, row_on HM.out.2 HW.out.2.1, h2⟩⟩
 clear hq1 hlow
 go_loopw [6] (fun v6 wr => ∃ (k : Nat) (f : Nat → Bool), k ≤ (stepAt l i).needs.length ∧ v6 = .int .i64 (k : Int) ∧ Sound l i f ∧ (∀ j (hj : j < k) (hl : j < (stepAt l i).needs.length), f (stepAt l i).needs[j].toNat = true) ∧ Rn w wr nm l ad c f) (fun v6 _ => (stepAt l i).needs.length - (intOf v6).toNat)
 case atStart => exact ⟨0, _, Nat.zero_le _, rfl, fun x _ h => (by cases h), fun j hj => absurd hj (Nat.not_lt_zero _), HR0.out⟩
 case round =>
  obtain ⟨k, f, hk, rfl, hs, hh, hR⟩ := hrel
  have HG := Aside0.mk (And.intro hs (And.intro hh hR))
  have hq1 := row_cell (j := 1) hR.box rfl
  obtain ⟨_, e1, A1, c1, A2, c2, h1⟩ := HA.out.1.one (stepAt_eq hi)
  cases e1
  have h1b := h1.below hR.below
  have hc4 := h1b.c4
  have hnd := Aside0.mk h1b.needs
  have hlt8 := (HA.out.2 i hi).2
  clear hs hh hR h1 h1b
  by_cases hlt : k < (stepAt l i).needs.length
  · have hd2 : decide ((k : Int) < ((stepAt l i).needs.length : Int)) = true := decide_eq_true (by omega)
    obtain ⟨an, rfl, hx⟩ := int_at hnd.out hlt
    obtain ⟨hx0, hx1⟩ := (HA.out.2 i hi).1 _ (List.getElem_mem hlt)
    obtain ⟨m, hm⟩ : ∃ m : Nat, (stepAt l i).needs[k] = (m : Int) := ⟨(stepAt l i).needs[k].toNat, by omega⟩
    have hml : m < l.length := by omega
    rw [hm] at hx
    have hmq := row_cell (j := m) HG.out.2.2.row (rowA_at hml)
    have hmf := free_of_row (j := m) HG.out.2.2.row
    have HM2 := Aside0.mk hm
    have hmem : (m : Int) ∈ (stepAt l i).needs := hm ▸ List.getElem_mem hlt
    have HMEM := Aside0.mk hmem
    clear hx0 hx1 hm hmem
    go_wp2
    go_roundw
    case rel =>
     refine ⟨k + 1, _, hlt, by go_num, fun x hx h2 => ?_, fun j hj hl => ?_, HG.out.2.2.set m⟩
     · unfold upd at h2
       split at h2
       · rename_i e
         subst e
         exact .one HMEM.out
       · exact HG.out.1 x hx h2
     · rcases Nat.lt_succ_iff_lt_or_eq.1 hj with h | h
       · have := HG.out.2.1 j h hl
         unfold upd
         split
         · rfl
         · exact this
       · subst h
         rw [HM2.out]
         unfold upd
         simp
    case measure => simp [intOf]; omega
  · have hd2 : decide ((k : Int) < ((stepAt l i).needs.length : Int)) = false := decide_eq_false (by omega)
    have H0 : Aside0 (Sound l i f ∧ Init l i f ∧ Rn w wr nm l ad c f) := ⟨HG.out.1, fun x hx => by
     obtain ⟨j, hj, e⟩ := List.getElem_of_mem hx
     have := HG.out.2.1 j (by omega) hj
     rw [e] at this
     exact this, HG.out.2.2⟩
    clear HG hnd
    go_wp2
    clear hc4 hq1
    go_loopw [7] (fun v7 wr => ∃ (r : Nat) (f : Nat → Bool), r ≤ l.length ∧ v7 = .int .i64 (r : Int) ∧ Sound l i f ∧ Init l i f ∧ (Closed l f ∨ r ≤ cnt f l.length) ∧ Rn w wr nm l ad c f) (fun v7 _ => l.length - (intOf v7).toNat)
    case atStart => exact ⟨0, _, Nat.zero_le _, rfl, H0.out.1, H0.out.2.1, .inr (Nat.zero_le _), H0.out.2.2⟩
    case round =>
     obtain ⟨r, f, hr, rfl, hs, h0, hc, hR⟩ := hrel
     have HG := Aside0.mk (And.intro hs (And.intro h0 (And.intro hc hR)))
     have hq1 := row_cell (j := 1) hR.box rfl
     clear hs h0 hc hR H0
     by_cases hlr : r < l.length
     · have hd3 : decide ((r : Int) < (l.length : Int)) = true := decide_eq_true (by omega)
       go_wp2
       clear hq1
       go_loopw [8] (fun v8 wr => ∃ (k : Nat) (g : Nat → Bool), k ≤ l.length ∧ v8 = .int .i64 (k : Int) ∧ Mid l i f g k ∧ Rn w wr nm l ad c g) (fun v8 _ => l.length - (intOf v8).toNat)
       case atStart => exact ⟨0, _, Nat.zero_le _, rfl, mid_start HG.out.1, HG.out.2.2.2⟩
       case round =>
        obtain ⟨k, g, hk, rfl, hm, hR⟩ := hrel
        have HM := Aside0.mk (And.intro hm hR)
        have hq1 := row_cell (j := 1) hR.box rfl
        clear hm hR
        by_cases hlk : k < l.length
        · have hd4 : decide ((k : Int) < (l.length : Int)) = true := decide_eq_true (by omega)
          obtain ⟨_, e1, A1, c1, A2, c2, h1⟩ := HA.out.1.one (stepAt_eq hlk)
          cases e1
          have HN := Aside0.mk h1.needs
          have hkr := row_cell (j := k) HM.out.2.row (rowA_at hlk)
          have h1b := h1.below HM.out.2.below
          have hc4 := h1b.c4
          have hlt8 := (HA.out.2 k hlk).2
          have HS1 := Aside0.mk h1
          clear h1 h1b
          cases hgk : g k
          · rw [hgk] at hkr
            go_wp2
            go_loopw [9] (fun v9 wq => v9 = .int .i64 0 ∧ wq = wr) (fun _ _ => 0)
            case atStart => exact ⟨rfl, rfl⟩
            case round =>
             obtain ⟨rfl, rfl⟩ := hrel
             by_cases hl : (stepAt l k).needs.length = 0
             · have hd : decide (0 < ((stepAt l k).needs.length : Int)) = false := decide_eq_false (by omega)
               have hdn : decide (0 < (stepAt l k).needs.length) = false := decide_eq_false (by omega)
               clear hl
               go_wp2
               go_roundw
               case rel => exact ⟨k + 1, g, hlk, by go_num, mid_skip HM.out.1 hgk, HM.out.2⟩
               case measure => simp [intOf]; omega
             · have hd : decide (0 < ((stepAt l k).needs.length : Int)) = true := decide_eq_true (by omega)
               have hdn : decide (0 < (stepAt l k).needs.length) = true := decide_eq_true (by omega)
               clear hl
               go_wp2
               go_roundw
               case rel => exact ⟨k + 1, g, hlk, by go_num, mid_skip HM.out.1 hgk, HM.out.2⟩
               case measure => simp [intOf]; omega
          · clear hkr hc4
            go_wp2
            clear hq1
            go_loopw [9] (fun v9 wq => ∃ (j : Nat) (g2 : Nat → Bool), j ≤ (stepAt l k).needs.length ∧ v9 = .int .i64 (j : Int) ∧ Low l i f g g2 k j ∧ Rn w wq nm l ad c g2) (fun v9 _ => (stepAt l k).needs.length - (intOf v9).toNat)
            case atStart => exact ⟨0, g, Nat.zero_le _, rfl, ⟨HM.out.1, fun _ _ h => h, fun q hq => absurd hq (Nat.not_lt_zero _)⟩, HM.out.2⟩
            case round =>
             obtain ⟨j, g2, hj, rfl, hlo, hR⟩ := hrel
             have HL := Aside0.mk (And.intro hlo hR)
             have hq1 := row_cell (j := 1) hR.box rfl
             have hc4 := (HS1.out.below hR.below).c4
             have hkr := row_cell (j := k) hR.row (rowA_at hlk)
             rw [hlo.le k hlk hgk] at hkr
             clear hlo hR
             by_cases hlt : j < (stepAt l k).needs.length
             · have hd2 : decide ((j : Int) < ((stepAt l k).needs.length : Int)) = true := decide_eq_true (by omega)
               obtain ⟨an, rfl, hx⟩ := int_at HN.out hlt
               replace hx := cell_on HL.out.2.below hx
               obtain ⟨hx0, hx1⟩ := (HA.out.2 k hlk).1 _ (List.getElem_mem hlt)
               obtain ⟨m, hm⟩ : ∃ m : Nat, (stepAt l k).needs[j] = (m : Int) := ⟨(stepAt l k).needs[j].toNat, by omega⟩
               have hml : m < l.length := by omega
               rw [hm] at hx
               have hmq := row_cell (j := m) HL.out.2.row (rowA_at hml)
               have hmf := free_of_row (j := m) HL.out.2.row
               have HM2 := Aside0.mk (And.intro (low_step hlk HL.out.1 hgk hlt hm hml) (HL.out.2.set m))
               clear hx0 hx1 hm
               go_wp2
               go_roundw
               case rel => exact ⟨j + 1, _, hlt, by go_num, HM2.out.1, HM2.out.2⟩
               case measure => simp [intOf]; omega
             · have hd2 : decide ((j : Int) < ((stepAt l k).needs.length : Int)) = false := decide_eq_false (by omega)
               have hj' : j = (stepAt l k).needs.length := by omega
               have HE : Aside0 (Mid l i f g2 (k + 1)) := ⟨low_end (by have := HL.out.1; rw [hj'] at this; exact this)⟩
               clear hj'
               go_wp2
               go_roundw
               case rel => exact ⟨k + 1, g2, hlk, by go_num, HE.out, HL.out.2⟩
               case measure => simp [intOf]; omega
        · have hk' : k = l.length := by omega
          subst hk'
          have hd4 : decide ((l.length : Int) < (l.length : Int)) = false := decide_eq_false (by omega)
          have HE := Aside0.mk (mid_end (r := r) (fun k hk => (HA.out.2 k hk).1) HM.out.1 HG.out.2.2.1 HG.out.2.1 hi)
          go_wp2
          go_roundw
          case rel => exact ⟨r + 1, g, hlr, by go_num, HE.out.1, HE.out.2.1, HE.out.2.2, HM.out.2⟩
          case measure => simp [intOf]; omega
     · have hr' : r = l.length := by omega
       subst hr'
       have hd3 : decide ((l.length : Int) < (l.length : Int)) = false := decide_eq_false (by omega)
       have hfi := row_cell (j := i) HG.out.2.2.2.row (rowA_at hi)
       have HE : Aside0 (f i = ringAt l i) := ⟨ring_answer (fun k hk => (HA.out.2 k hk).1) hi HG.out.1 HG.out.2.1 (by
        rcases HG.out.2.2.1 with h | h
        · exact h
        · have h2 := cnt_full (f := f) (n := l.length) (by have := cnt_le f l.length; omega)
          intro k hk _ x hx
          have := (HA.out.2 k hk).1 _ hx
          exact h2 x (by omega))⟩
       generalize f i = b at *
       go_wp2
       go_ret
       rw [← HE.out]
       exact ⟨rfl, HG.out.2.2.2.below⟩
end Go.Proofs.YthlgcibckakhbaaGreatDoor.Pl

/- odysseyref11.loose: the walk, by hand. -/
namespace Go.Proofs.YthlgcibckakhbaaGreatDoor.Pl
open Go.RowKit Go.IntWalk Go.Proofs.YthlgcibckakhbaaGreatDoorW.PrintWords Go.Proofs.YthlgcibckakhbaaGreatDoorW.PrintLast Go.Proofs.YthlgcibckakhbaaGreatDoorW.PrintMore Go.Proofs.YthlgcibckakhbaaGreatDoor.PlName

theorem beq_bytes {a b : ByteArray} (h : (a.toList == b.toList) = true) : a = b := by
 have h := beq_iff_eq.1 h
 rw [ByteArray.toList_eq, ByteArray.toList_eq] at h
 cases a; cases b
 exact congrArg ByteArray.mk (Array.toList_inj.1 h)
def hasK (ks : List ByteArray) (k : ByteArray) : Bool := ks.any fun x => x.toList == k.toList
theorem hasK_snoc (ks : List ByteArray) (x k : ByteArray) : hasK (ks ++ [x]) k = (hasK ks k || (x.toList == k.toList)) := by
 unfold hasK
 simp
theorem held_has (l : List Step) (k : ByteArray) : (heldF l k == 0) = !hasK (heldKeys l) k := by
 unfold heldF countK hasK
 cases h : (heldKeys l).any fun x => x.toList == k.toList
 · rw [List.any_eq_false] at h
   have : (heldKeys l).countP (fun x => decide (x = k)) = 0 := by
    rw [List.countP_eq_zero]
    intro x hx e
    have e := of_decide_eq_true e
    subst e
    exact h x hx (by simp)
   rw [this]
   rfl
 · rw [List.any_eq_true] at h
   obtain ⟨x, hx, e⟩ := h
   have e := beq_bytes e
   subst e
   have : 0 < (heldKeys l).countP (fun y => decide (y = x)) := List.countP_pos_iff.2 ⟨x, hx, by simp⟩
   simp only [Bool.not_true, beq_eq_false_iff_ne, ne_eq]
   omega
theorem lacks_kind {l : List Step} {i : Nat} (hi : i < l.length) (hk : (stepAt l i).kind ≠ 3) : lacksHeld l (heldF l) i = false := by
 unfold lacksHeld
 rw [List.any_eq_false]
 intro k hk2
 rw [held_has]
 have : hasK (heldKeys l) k = true := by
  unfold hasK
  rw [List.any_eq_true]
  refine ⟨k, ?_, by simp⟩
  unfold heldKeys
  rw [List.mem_flatMap]
  exact ⟨stepAt l i, List.mem_of_getElem? (stepAt_eq hi), by rw [if_neg hk]; exact hk2⟩
 rw [this]
 simp
theorem key_cell {w : World} {A : Option Addr} {l : List ByteArray} (h : Kd.C Kd.string w A l.length l) {i : Nat} (hlt : i < l.length) : ∃ ad, A = some ad ∧ w.cell? (ad.add i) = some (.string l[i]) := str_at h hlt

set_option maxHeartbeats 16000000 in
set_option maxRecDepth 100000 in
theorem looseR_calls (nm : ByteArray) (l : List Step) (ad : Addr) (c : Nat) (i : Nat) (w : World) (hS : StepsAt w (some ad) l) (hi : i < l.length) (hl8 : l.length ≤ 8) (hk2 : ∀ k, k < l.length → (stepAt l k).keys.length ≤ 2) :
 Calls Tryz.prog 80 #[.agg #[.string nm, .slice (some ad) l.length c], .int .i64 (i : Int)] w fun e w' => e = .returned (.bool (lacksHeld l (heldF l) i)) ∧ Below w.heap.size w w' := by
 have HB0 := Aside0.mk (And.intro (below_one w (.cells #[.string nm, .slice (some ad) l.length c] 24)) (alloc1 w (.cells #[.string nm, .slice (some ad) l.length c] 24)))
 have HA := Aside0.mk (And.intro hS hk2)
 obtain ⟨_, e1, A1, c1, A2, c2, h1⟩ := hS.one (stepAt_eq hi)
 cases e1
 have HS1 := Aside0.mk h1
 have hki := hk2 i hi
 have HLK := Aside0.mk (fun h => lacks_kind (l := l) hi h)
 have HF : Aside0 (lacksHeld l (heldF l) i = (stepAt l i).keys.any fun k => heldF l k == 0) := ⟨rfl⟩
 clear hS hk2 h1
 generalize lacksHeld l (heldF l) i = rr at *
 go_enter Tryz.func80, Tryz.ntmps80
 go_wp2
 generalize World.alloc w _ = w0 at *
 cases hk3 : ((stepAt l i).kind == 3)
 · have HX : Aside0 (rr = false) := ⟨HLK.out (beq_eq_false_iff_ne.1 hk3)⟩
   have hq1 := row_cell (j := 1) HB0.out.2 rfl
   have hs3 := (HS1.out.below HB0.out.1).c3
   have hs1 := (HS1.out.below HB0.out.1).c1_
   go_loopw [5] (fun v5 wq => v5 = .int .i64 0 ∧ wq = w0) (fun _ _ => 0)
   case atStart => exact ⟨rfl, rfl⟩
   case round =>
    obtain ⟨rfl, rfl⟩ := hrel
    by_cases hl : (stepAt l i).keys.length = 0
    · have hd : decide (0 < ((stepAt l i).keys.length : Int)) = false := decide_eq_false (by omega)
      have hdn : decide (0 < (stepAt l i).keys.length) = false := decide_eq_false (by omega)
      clear hl
      go_wp2
      go_ret
      rw [HX.out]
      exact ⟨rfl, HB0.out.1⟩
    · have hd : decide (0 < ((stepAt l i).keys.length : Int)) = true := decide_eq_true (by omega)
      have hdn : decide (0 < (stepAt l i).keys.length) = true := decide_eq_true (by omega)
      clear hl
      go_wp2
      go_ret
      rw [HX.out]
      exact ⟨rfl, HB0.out.1⟩
 · go_loopw [5] (fun v5 wr => ∃ k : Nat, k ≤ (stepAt l i).keys.length ∧ v5 = .int .i64 (k : Int) ∧ (∀ j (hj : j < k) (hl : j < (stepAt l i).keys.length), (heldF l (stepAt l i).keys[j] == 0) = false) ∧ Below w0.heap.size w0 wr) (fun v5 _ => (stepAt l i).keys.length - (intOf v5).toNat)
   case atStart => exact ⟨0, Nat.zero_le _, rfl, fun j hj => absurd hj (Nat.not_lt_zero _), Below.refl _ _⟩
   case round =>
    obtain ⟨k, hk, rfl, hal, hB⟩ := hrel
    have HG := Aside0.mk (And.intro hal (And.intro hB (on_ HB0.out.1 hB)))
    have hq1 := row_cell (j := 1) (row_on hB HB0.out.2) rfl
    have hs3 := (HS1.out.below (on_ HB0.out.1 hB)).c3
    have hs1 := (HS1.out.below (on_ HB0.out.1 hB)).c1_
    clear hal hB
    by_cases hlt : k < (stepAt l i).keys.length
    · have hd2 : decide ((k : Int) < ((stepAt l i).keys.length : Int)) = true := decide_eq_true (by omega)
      obtain ⟨ai, rfl, hkey⟩ := key_cell HS1.out.keys hlt
      have HKEY := Aside0.mk hkey
      have HHS := Aside0.mk (held_has l (stepAt l i).keys[k])
      have HAN : Aside0 ((heldF l (stepAt l i).keys[k] == 0) = true → rr = true) := ⟨fun h => by rw [HF.out]; exact any_hit hlt h⟩
      have HST : Aside0 ((heldF l (stepAt l i).keys[k] == 0) = false → ∀ j (hj : j < k + 1) (hl : j < (stepAt l i).keys.length), (heldF l (stepAt l i).keys[j] == 0) = false) := ⟨fun h j hj hl => by
       rcases Nat.lt_succ_iff_lt_or_eq.1 hj with h2 | h2
       · exact HG.out.1 j h2 hl
       · subst h2
         exact h⟩
      clear hkey
      generalize (stepAt l i).keys[k] = key at *
      go_wp2
      clear hq1 hs3 hs1
      go_loopw [6, 7] (fun v6 v7 wj => ∃ j : Nat, j ≤ l.length ∧ v7 = .int .i64 (j : Int) ∧ v6 = .bool (hasK (heldKeys (l.take j)) key) ∧ Below w0.heap.size w0 wj) (fun _ v7 _ => l.length - (intOf v7).toNat)
      case atStart => exact ⟨0, Nat.zero_le _, rfl, rfl, HG.out.2.1⟩
      case round =>
       obtain ⟨j, hj, rfl, rfl, hB⟩ := hrel
       have HJ := Aside0.mk (And.intro hB (on_ HB0.out.1 hB))
       have hq1 := row_cell (j := 1) (row_on hB HB0.out.2) rfl
       clear hB
       by_cases hlj : j < l.length
       · have hd3 : decide ((j : Int) < (l.length : Int)) = true := decide_eq_true (by omega)
         obtain ⟨_, e2, B1, b1_, B2, b2_, h2⟩ := HA.out.1.one (stepAt_eq hlj)
         cases e2
         have HS2 := Aside0.mk h2
         have hkj := HA.out.2 j hlj
         have HSN := Aside0.mk (heldKeys_snoc hlj)
         clear h2
         generalize hfb : hasK (heldKeys (l.take j)) key = fb at *
         replace hfb := Aside0.mk hfb
         cases hk4 : ((stepAt l j).kind != 3)
         · have hk4' : (stepAt l j).kind = 3 := bne_eq_false_iff_eq.1 hk4
           have HE : Aside0 (fb = hasK (heldKeys (l.take (j + 1))) key) := ⟨by rw [HSN.out, if_pos hk4', List.append_nil]; exact hfb.out.symm⟩
           have hs3 := (HS2.out.below HJ.out.2).c3
           have hs1 := (HS2.out.below HJ.out.2).c1_
           clear hk4'
           go_wp2
           go_loopw [6, 8] (fun v6 v8 wq => v8 = .int .i64 0 ∧ v6 = .bool fb ∧ wq = wr) (fun _ _ _ => 0)
           case atStart => exact ⟨rfl, rfl, rfl⟩
           case round =>
            obtain ⟨rfl, rfl, rfl⟩ := hrel
            by_cases hl : (stepAt l j).keys.length = 0
            · have hd : decide (0 < ((stepAt l j).keys.length : Int)) = false := decide_eq_false (by omega)
              have hdn : decide (0 < (stepAt l j).keys.length) = false := decide_eq_false (by omega)
              clear hl
              go_wp2
              go_roundw
              case rel => exact ⟨j + 1, hlj, by go_num, by rw [HE.out], HJ.out.1⟩
              case measure => simp [intOf]; omega
            · have hd : decide (0 < ((stepAt l j).keys.length : Int)) = true := decide_eq_true (by omega)
              have hdn : decide (0 < (stepAt l j).keys.length) = true := decide_eq_true (by omega)
              clear hl
              go_wp2
              go_roundw
              case rel => exact ⟨j + 1, hlj, by go_num, by rw [HE.out], HJ.out.1⟩
              case measure => simp [intOf]; omega
         · have hk4' : (stepAt l j).kind ≠ 3 := bne_iff_ne.1 hk4
           have HE : Aside0 (hasK (heldKeys (l.take j) ++ (stepAt l j).keys.take (stepAt l j).keys.length) key = hasK (heldKeys (l.take (j + 1))) key) := ⟨by rw [HSN.out, if_neg hk4', List.take_length]⟩
           clear hk4'
           go_wp2
           clear hq1
           go_loopw [6, 8] (fun v6 v8 wm => ∃ m : Nat, m ≤ (stepAt l j).keys.length ∧ v8 = .int .i64 (m : Int) ∧ v6 = .bool (hasK (heldKeys (l.take j) ++ (stepAt l j).keys.take m) key) ∧ Below w0.heap.size w0 wm) (fun _ v8 _ => (stepAt l j).keys.length - (intOf v8).toNat)
           case atStart => exact ⟨0, Nat.zero_le _, rfl, by rw [List.take_zero, List.append_nil, hfb.out], HJ.out.1⟩
           case round =>
            obtain ⟨m, hm, rfl, rfl, hB⟩ := hrel
            have HM := Aside0.mk (And.intro hB (on_ HB0.out.1 hB))
            have hq1 := row_cell (j := 1) (row_on hB HB0.out.2) rfl
            have hs3 := (HS2.out.below HM.out.2).c3
            have hs1 := (HS2.out.below HM.out.2).c1_
            clear hB
            by_cases hlm : m < (stepAt l j).keys.length
            · have hd4 : decide ((m : Int) < ((stepAt l j).keys.length : Int)) = true := decide_eq_true (by omega)
              obtain ⟨aj, rfl, hkj2⟩ := key_cell HS2.out.keys hlm
              replace hkj2 := cell_on HM.out.2 hkj2
              have hki3 := (HS1.out.below HM.out.2).c3
              have hkey := cell_on HM.out.2 HKEY.out
              have HSS : Aside0 (hasK (heldKeys (l.take j) ++ (stepAt l j).keys.take (m + 1)) key = (hasK (heldKeys (l.take j) ++ (stepAt l j).keys.take m) key || ((stepAt l j).keys[m].toList == key.toList))) := ⟨by rw [List.take_succ_eq_append_getElem hlm, ← List.append_assoc, hasK_snoc]⟩
              generalize (stepAt l j).keys[m] = kj at *
              generalize hasK (heldKeys (l.take j) ++ (stepAt l j).keys.take m) key = b0 at *
              cases b0
              · rw [Bool.false_or] at HSS
                generalize hkk : (kj.toList == key.toList) = b1 at *
                go_wp2
                refine start_ (n := 23) (S := fun w' => w'.cell? ⟨w.heap.size, 1, none⟩ = some (.slice (some ad) l.length c) ∧ w'.cell? ⟨(ad.add (j * 5)).block, (ad.add (j * 5)).off + 3, none⟩ = some (.slice (some aj) (stepAt l j).keys.length b1_) ∧ w'.cell? (aj.add m) = some (.string kj) ∧ w'.cell? ⟨(ad.add (i * 5)).block, (ad.add (i * 5)).off + 3, none⟩ = some (.slice (some ai) (stepAt l i).keys.length c1) ∧ w'.cell? (ai.add k) = some (.string key)) (ds := []) #[false,false,false,false,false,false,false,false,false,false,false,false,false,false,false,false,false,false,false,false,false,false,false] (by kernel_rfl) rfl rfl ⟨(by go_keep), (by go_keep), (by go_keep), (by go_keep), (by go_keep)⟩ (fun hHeld => ?_)
                refine pure_ (i := 0) (N := some 56) (v := ?_) (a' := ?_) #[true,false,false,false,false,false,false,false,false,false,false,false,false,false,false,false,false,false,false,false,false,false,false] rfl rfl (by kernel_rfl) (fun _ _ _ h => h) (Or.inl ⟨by rfl, ?_⟩) ?_ ?_
                rotate_left
                · intro w'
                  go_simp
                  with_reducible rfl
                rotate_left
                · simp only [Act.put, zA, zB, zC, i64_w, i32_w]
                  rfl
                refine pure_ (i := 1) (N := some 57) (v := ?_) (a' := ?_) #[true,true,false,false,false,false,false,false,false,false,false,false,false,false,false,false,false,false,false,false,false,false,false] rfl rfl (by kernel_rfl) (fun _ _ _ h => h) (Or.inl ⟨by rfl, ?_⟩) ?_ ?_
                rotate_left
                · intro w'
                  go_simp
                  with_reducible rfl
                rotate_left
                · simp only [Act.put, zA, zB, zC, i64_w, i32_w]
                  rfl
                refine pure_ (i := 2) (N := some 58) (v := ?_) (a' := ?_) #[true,true,true,false,false,false,false,false,false,false,false,false,false,false,false,false,false,false,false,false,false,false,false] rfl rfl (by kernel_rfl) (fun _ _ _ h => h) (Or.inl ⟨by rfl, ?_⟩) ?_ ?_
                rotate_left
                · intro w'
                  go_simp
                  with_reducible rfl
                rotate_left
                · simp only [Act.put, zA, zB, zC, i64_w, i32_w]
                  rfl
                refine pure_ (i := 4) (N := some 60) (v := ?_) (a' := ?_) #[true,true,true,false,true,false,false,false,false,false,false,false,false,false,false,false,false,false,false,false,false,false,false] rfl rfl (by kernel_rfl) (fun _ _ _ h => h) (Or.inl ⟨by rfl, ?_⟩) ?_ ?_
                rotate_left
                · intro w'
                  go_simp
                  with_reducible rfl
                rotate_left
                · simp only [Act.put, zA, zB, zC, i64_w, i32_w]
                  rfl
                refine pure_ (i := 8) (N := some 64) (v := ?_) (a' := ?_) #[true,true,true,false,true,false,false,false,true,false,false,false,false,false,false,false,false,false,false,false,false,false,false] rfl rfl (by kernel_rfl) (fun _ _ _ h => h) (Or.inl ⟨by rfl, ?_⟩) ?_ ?_
                rotate_left
                · intro w'
                  go_simp
                  with_reducible rfl
                rotate_left
                · simp only [Act.put, zA, zB, zC, i64_w, i32_w]
                  rfl
                refine pure_ (i := 11) (N := some 67) (v := ?_) (a' := ?_) #[true,true,true,false,true,false,false,false,true,false,false,true,false,false,false,false,false,false,false,false,false,false,false] rfl rfl (by kernel_rfl) (fun _ _ _ h => h) (Or.inl ⟨by rfl, ?_⟩) ?_ ?_
                rotate_left
                · intro w'
                  go_simp
                  with_reducible rfl
                rotate_left
                · simp only [Act.put, zA, zB, zC, i64_w, i32_w]
                  rfl
                refine pure_ (i := 13) (N := some 69) (v := ?_) (a' := ?_) #[true,true,true,false,true,false,false,false,true,false,false,true,false,true,false,false,false,false,false,false,false,false,false] rfl rfl (by kernel_rfl) (fun _ _ _ h => h) (Or.inl ⟨by rfl, ?_⟩) ?_ ?_
                rotate_left
                · intro w'
                  go_simp
                  with_reducible rfl
                rotate_left
                · simp only [Act.put, zA, zB, zC, i64_w, i32_w]
                  rfl
                refine pure_ (i := 17) (N := some 73) (v := ?_) (a' := ?_) #[true,true,true,false,true,false,false,false,true,false,false,true,false,true,false,false,false,true,false,false,false,false,false] rfl rfl (by kernel_rfl) (fun _ _ _ h => h) (Or.inl ⟨by rfl, ?_⟩) ?_ ?_
                rotate_left
                · intro w'
                  go_simp
                  with_reducible rfl
                rotate_left
                · simp only [Act.put, zA, zB, zC, i64_w, i32_w]
                  rfl
                refine take_ (i := 3) (N := some 59) (v := ?_) (a' := ?_) #[true,true,true,true,true,false,false,false,true,false,false,true,false,true,false,false,false,true,false,false,false,false,false] rfl rfl (by kernel_rfl) (fun _ _ _ h => h) (Or.inl ⟨by rfl, ?_⟩) hHeld ?_ ?_
                rotate_left
                · rintro w' ⟨s0, s1, s2, s3, s4⟩
                  go_simp
                  with_reducible rfl
                rotate_left
                · simp only [Act.put, zA, zB, zC, i64_w, i32_w]
                  rfl
                refine pure_ (i := 5) (N := some 61) (v := ?_) (a' := ?_) #[true,true,true,true,true,true,false,false,true,false,false,true,false,true,false,false,false,true,false,false,false,false,false] rfl rfl (by kernel_rfl) (fun _ _ _ h => h) (Or.inl ⟨by rfl, ?_⟩) ?_ ?_
                rotate_left
                · intro w'
                  go_simp
                  with_reducible rfl
                rotate_left
                · simp only [Act.put, zA, zB, zC, i64_w, i32_w]
                  rfl
                refine pure_ (i := 6) (N := some 62) (v := ?_) (a' := ?_) #[true,true,true,true,true,true,true,false,true,false,false,true,false,true,false,false,false,true,false,false,false,false,false] rfl rfl (by kernel_rfl) (fun _ _ _ h => h) (Or.inl ⟨by rfl, ?_⟩) ?_ ?_
                rotate_left
                · intro w'
                  go_simp
                  with_reducible rfl
                rotate_left
                · simp only [Act.put, zA, zB, zC, i64_w, i32_w]
                  rfl
                refine take_ (i := 7) (N := some 63) (v := ?_) (a' := ?_) #[true,true,true,true,true,true,true,true,true,false,false,true,false,true,false,false,false,true,false,false,false,false,false] rfl rfl (by kernel_rfl) (fun _ _ _ h => h) (Or.inl ⟨by rfl, ?_⟩) hHeld ?_ ?_
                rotate_left
                · rintro w' ⟨s0, s1, s2, s3, s4⟩
                  go_simp
                  with_reducible rfl
                rotate_left
                · simp only [Act.put, zA, zB, zC, i64_w, i32_w]
                  rfl
                refine pure_ (i := 9) (N := some 65) (v := ?_) (a' := ?_) #[true,true,true,true,true,true,true,true,true,true,false,true,false,true,false,false,false,true,false,false,false,false,false] rfl rfl (by kernel_rfl) (fun _ _ _ h => h) (Or.inl ⟨by rfl, ?_⟩) ?_ ?_
                rotate_left
                · intro w'
                  go_simp
                  with_reducible rfl
                rotate_left
                · simp only [Act.put, zA, zB, zC, i64_w, i32_w]
                  rfl
                refine take_ (i := 10) (N := some 66) (v := ?_) (a' := ?_) #[true,true,true,true,true,true,true,true,true,true,true,true,false,true,false,false,false,true,false,false,false,false,false] rfl rfl (by kernel_rfl) (fun _ _ _ h => h) (Or.inl ⟨by rfl, ?_⟩) hHeld ?_ ?_
                rotate_left
                · rintro w' ⟨s0, s1, s2, s3, s4⟩
                  go_simp
                  with_reducible rfl
                rotate_left
                · simp only [Act.put, zA, zB, zC, i64_w, i32_w]
                  rfl
                refine take_ (i := 12) (N := some 68) (v := ?_) (a' := ?_) #[true,true,true,true,true,true,true,true,true,true,true,true,true,true,false,false,false,true,false,false,false,false,false] rfl rfl (by kernel_rfl) (fun _ _ _ h => h) (Or.inl ⟨by rfl, ?_⟩) hHeld ?_ ?_
                rotate_left
                · rintro w' ⟨s0, s1, s2, s3, s4⟩
                  go_simp
                  with_reducible rfl
                rotate_left
                · simp only [Act.put, zA, zB, zC, i64_w, i32_w]
                  rfl
                refine pure_ (i := 14) (N := some 70) (v := ?_) (a' := ?_) #[true,true,true,true,true,true,true,true,true,true,true,true,true,true,true,false,false,true,false,false,false,false,false] rfl rfl (by kernel_rfl) (fun _ _ _ h => h) (Or.inl ⟨by rfl, ?_⟩) ?_ ?_
                rotate_left
                · intro w'
                  go_simp
                  with_reducible rfl
                rotate_left
                · simp only [Act.put, zA, zB, zC, i64_w, i32_w]
                  rfl
                refine pure_ (i := 15) (N := some 71) (v := ?_) (a' := ?_) #[true,true,true,true,true,true,true,true,true,true,true,true,true,true,true,true,false,true,false,false,false,false,false] rfl rfl (by kernel_rfl) (fun _ _ _ h => h) (Or.inl ⟨by rfl, ?_⟩) ?_ ?_
                rotate_left
                · intro w'
                  go_simp
                  with_reducible rfl
                rotate_left
                · simp only [Act.put, zA, zB, zC, i64_w, i32_w]
                  rfl
                refine take_ (i := 16) (N := some 72) (v := ?_) (a' := ?_) #[true,true,true,true,true,true,true,true,true,true,true,true,true,true,true,true,true,true,false,false,false,false,false] rfl rfl (by kernel_rfl) (fun _ _ _ h => h) (Or.inl ⟨by rfl, ?_⟩) hHeld ?_ ?_
                rotate_left
                · rintro w' ⟨s0, s1, s2, s3, s4⟩
                  go_simp
                  with_reducible rfl
                rotate_left
                · simp only [Act.put, zA, zB, zC, i64_w, i32_w]
                  rfl
                refine pure_ (i := 18) (N := some 74) (v := ?_) (a' := ?_) #[true,true,true,true,true,true,true,true,true,true,true,true,true,true,true,true,true,true,true,false,false,false,false] rfl rfl (by kernel_rfl) (fun _ _ _ h => h) (Or.inl ⟨by rfl, ?_⟩) ?_ ?_
                rotate_left
                · intro w'
                  go_simp
                  with_reducible rfl
                rotate_left
                · simp only [Act.put, zA, zB, zC, i64_w, i32_w]
                  rfl
                refine take_ (i := 19) (N := some 75) (v := ?_) (a' := ?_) #[true,true,true,true,true,true,true,true,true,true,true,true,true,true,true,true,true,true,true,true,false,false,false] rfl rfl (by kernel_rfl) (fun _ _ _ h => h) (Or.inl ⟨by rfl, ?_⟩) hHeld ?_ ?_
                rotate_left
                · rintro w' ⟨s0, s1, s2, s3, s4⟩
                  go_simp
                  with_reducible rfl
                rotate_left
                · simp only [Act.put, zA, zB, zC, i64_w, i32_w]
                  rfl
                refine pure_ (i := 20) (N := some 76) (v := ?_) (a' := ?_) #[true,true,true,true,true,true,true,true,true,true,true,true,true,true,true,true,true,true,true,true,true,false,false] rfl rfl (by kernel_rfl) (fun _ _ _ h => h) (Or.inl ⟨by rfl, ?_⟩) ?_ ?_
                rotate_left
                · intro w'
                  go_simp
                  with_reducible rfl
                rotate_left
                · simp only [Act.put, zA, zB, zC, i64_w, i32_w]
                  rfl
                refine pure_ (i := 21) (N := some 77) (v := ?_) (a' := ?_) #[true,true,true,true,true,true,true,true,true,true,true,true,true,true,true,true,true,true,true,true,true,true,false] rfl rfl (by kernel_rfl) (fun _ _ _ h => h) (Or.inl ⟨by rfl, ?_⟩) ?_ ?_
                rotate_left
                · intro w'
                  go_simp
                  with_reducible rfl
                rotate_left
                · simp only [Act.put, zA, zB, zC, i64_w, i32_w]
                  rfl
                refine pure_ (i := 22) (N := some 6) (v := ?_) (a' := ?_) #[true,true,true,true,true,true,true,true,true,true,true,true,true,true,true,true,true,true,true,true,true,true,true] rfl rfl (by kernel_rfl) (fun _ _ _ h => h) (Or.inl ⟨by rfl, ?_⟩) ?_ ?_
                rotate_left
                · intro w'
                  go_simp
                  with_reducible rfl
                rotate_left
                · simp only [Act.put, zA, zB, zC, i64_w, i32_w]
                  rfl
                refine done_ (by kernel_rfl) ?_
                go_wp2
                go_roundw
                case rel => exact ⟨m + 1, hlm, by go_num, by rw [HSS.out], below_drew HM.out.1⟩
                case measure => simp [intOf]; omega
              · rw [Bool.true_or] at HSS
                go_wp2
                refine start_ (n := 23) (S := fun w' => w'.cell? ⟨w.heap.size, 1, none⟩ = some (.slice (some ad) l.length c)) (ds := []) #[false,false,false,false,false,false,false,false,false,false,false,false,false,false,false,false,false,false,false,false,false,false,false] (by kernel_rfl) rfl rfl ((by go_keep)) (fun hHeld => ?_)
                refine pure_ (i := 0) (N := some 56) (v := ?_) (a' := ?_) #[true,false,false,false,false,false,false,false,false,false,false,false,false,false,false,false,false,false,false,false,false,false,false] rfl rfl (by kernel_rfl) (fun _ _ _ h => h) (Or.inl ⟨by rfl, ?_⟩) ?_ ?_
                rotate_left
                · intro w'
                  go_simp
                  with_reducible rfl
                rotate_left
                · simp only [Act.put, zA, zB, zC, i64_w, i32_w]
                  rfl
                refine pure_ (i := 1) (N := some 57) (v := ?_) (a' := ?_) #[true,true,false,false,false,false,false,false,false,false,false,false,false,false,false,false,false,false,false,false,false,false,false] rfl rfl (by kernel_rfl) (fun _ _ _ h => h) (Or.inl ⟨by rfl, ?_⟩) ?_ ?_
                rotate_left
                · intro w'
                  go_simp
                  with_reducible rfl
                rotate_left
                · simp only [Act.put, zA, zB, zC, i64_w, i32_w]
                  rfl
                refine pure_ (i := 2) (N := some 58) (v := undef) (a' := ?_) #[true,true,true,false,false,false,false,false,false,false,false,false,false,false,false,false,false,false,false,false,false,false,false] rfl rfl (by kernel_rfl) (fun _ _ _ h => h) (Or.inr ⟨by rfl, rfl⟩) ?_ ?_
                rotate_left
                · simp only [Act.put, zA, zB, zC, i64_w, i32_w]
                  rfl
                refine pure_ (i := 3) (N := some 59) (v := undef) (a' := ?_) #[true,true,true,true,false,false,false,false,false,false,false,false,false,false,false,false,false,false,false,false,false,false,false] rfl rfl (by kernel_rfl) (fun _ _ _ h => h) (Or.inr ⟨by rfl, rfl⟩) ?_ ?_
                rotate_left
                · simp only [Act.put, zA, zB, zC, i64_w, i32_w]
                  rfl
                refine pure_ (i := 4) (N := some 60) (v := undef) (a' := ?_) #[true,true,true,true,true,false,false,false,false,false,false,false,false,false,false,false,false,false,false,false,false,false,false] rfl rfl (by kernel_rfl) (fun _ _ _ h => h) (Or.inr ⟨by rfl, rfl⟩) ?_ ?_
                rotate_left
                · simp only [Act.put, zA, zB, zC, i64_w, i32_w]
                  rfl
                refine pure_ (i := 5) (N := some 61) (v := undef) (a' := ?_) #[true,true,true,true,true,true,false,false,false,false,false,false,false,false,false,false,false,false,false,false,false,false,false] rfl rfl (by kernel_rfl) (fun _ _ _ h => h) (Or.inr ⟨by rfl, rfl⟩) ?_ ?_
                rotate_left
                · simp only [Act.put, zA, zB, zC, i64_w, i32_w]
                  rfl
                refine pure_ (i := 6) (N := some 62) (v := undef) (a' := ?_) #[true,true,true,true,true,true,true,false,false,false,false,false,false,false,false,false,false,false,false,false,false,false,false] rfl rfl (by kernel_rfl) (fun _ _ _ h => h) (Or.inr ⟨by rfl, rfl⟩) ?_ ?_
                rotate_left
                · simp only [Act.put, zA, zB, zC, i64_w, i32_w]
                  rfl
                refine pure_ (i := 7) (N := some 63) (v := undef) (a' := ?_) #[true,true,true,true,true,true,true,true,false,false,false,false,false,false,false,false,false,false,false,false,false,false,false] rfl rfl (by kernel_rfl) (fun _ _ _ h => h) (Or.inr ⟨by rfl, rfl⟩) ?_ ?_
                rotate_left
                · simp only [Act.put, zA, zB, zC, i64_w, i32_w]
                  rfl
                refine pure_ (i := 8) (N := some 64) (v := undef) (a' := ?_) #[true,true,true,true,true,true,true,true,true,false,false,false,false,false,false,false,false,false,false,false,false,false,false] rfl rfl (by kernel_rfl) (fun _ _ _ h => h) (Or.inr ⟨by rfl, rfl⟩) ?_ ?_
                rotate_left
                · simp only [Act.put, zA, zB, zC, i64_w, i32_w]
                  rfl
                refine pure_ (i := 9) (N := some 65) (v := undef) (a' := ?_) #[true,true,true,true,true,true,true,true,true,true,false,false,false,false,false,false,false,false,false,false,false,false,false] rfl rfl (by kernel_rfl) (fun _ _ _ h => h) (Or.inr ⟨by rfl, rfl⟩) ?_ ?_
                rotate_left
                · simp only [Act.put, zA, zB, zC, i64_w, i32_w]
                  rfl
                refine pure_ (i := 10) (N := some 66) (v := undef) (a' := ?_) #[true,true,true,true,true,true,true,true,true,true,true,false,false,false,false,false,false,false,false,false,false,false,false] rfl rfl (by kernel_rfl) (fun _ _ _ h => h) (Or.inr ⟨by rfl, rfl⟩) ?_ ?_
                rotate_left
                · simp only [Act.put, zA, zB, zC, i64_w, i32_w]
                  rfl
                refine pure_ (i := 11) (N := some 67) (v := undef) (a' := ?_) #[true,true,true,true,true,true,true,true,true,true,true,true,false,false,false,false,false,false,false,false,false,false,false] rfl rfl (by kernel_rfl) (fun _ _ _ h => h) (Or.inr ⟨by rfl, rfl⟩) ?_ ?_
                rotate_left
                · simp only [Act.put, zA, zB, zC, i64_w, i32_w]
                  rfl
                refine pure_ (i := 12) (N := some 68) (v := undef) (a' := ?_) #[true,true,true,true,true,true,true,true,true,true,true,true,true,false,false,false,false,false,false,false,false,false,false] rfl rfl (by kernel_rfl) (fun _ _ _ h => h) (Or.inr ⟨by rfl, rfl⟩) ?_ ?_
                rotate_left
                · simp only [Act.put, zA, zB, zC, i64_w, i32_w]
                  rfl
                refine pure_ (i := 13) (N := some 69) (v := undef) (a' := ?_) #[true,true,true,true,true,true,true,true,true,true,true,true,true,true,false,false,false,false,false,false,false,false,false] rfl rfl (by kernel_rfl) (fun _ _ _ h => h) (Or.inr ⟨by rfl, rfl⟩) ?_ ?_
                rotate_left
                · simp only [Act.put, zA, zB, zC, i64_w, i32_w]
                  rfl
                refine pure_ (i := 14) (N := some 70) (v := undef) (a' := ?_) #[true,true,true,true,true,true,true,true,true,true,true,true,true,true,true,false,false,false,false,false,false,false,false] rfl rfl (by kernel_rfl) (fun _ _ _ h => h) (Or.inr ⟨by rfl, rfl⟩) ?_ ?_
                rotate_left
                · simp only [Act.put, zA, zB, zC, i64_w, i32_w]
                  rfl
                refine pure_ (i := 15) (N := some 71) (v := undef) (a' := ?_) #[true,true,true,true,true,true,true,true,true,true,true,true,true,true,true,true,false,false,false,false,false,false,false] rfl rfl (by kernel_rfl) (fun _ _ _ h => h) (Or.inr ⟨by rfl, rfl⟩) ?_ ?_
                rotate_left
                · simp only [Act.put, zA, zB, zC, i64_w, i32_w]
                  rfl
                refine pure_ (i := 16) (N := some 72) (v := undef) (a' := ?_) #[true,true,true,true,true,true,true,true,true,true,true,true,true,true,true,true,true,false,false,false,false,false,false] rfl rfl (by kernel_rfl) (fun _ _ _ h => h) (Or.inr ⟨by rfl, rfl⟩) ?_ ?_
                rotate_left
                · simp only [Act.put, zA, zB, zC, i64_w, i32_w]
                  rfl
                refine pure_ (i := 17) (N := some 73) (v := undef) (a' := ?_) #[true,true,true,true,true,true,true,true,true,true,true,true,true,true,true,true,true,true,false,false,false,false,false] rfl rfl (by kernel_rfl) (fun _ _ _ h => h) (Or.inr ⟨by rfl, rfl⟩) ?_ ?_
                rotate_left
                · simp only [Act.put, zA, zB, zC, i64_w, i32_w]
                  rfl
                refine pure_ (i := 18) (N := some 74) (v := undef) (a' := ?_) #[true,true,true,true,true,true,true,true,true,true,true,true,true,true,true,true,true,true,true,false,false,false,false] rfl rfl (by kernel_rfl) (fun _ _ _ h => h) (Or.inr ⟨by rfl, rfl⟩) ?_ ?_
                rotate_left
                · simp only [Act.put, zA, zB, zC, i64_w, i32_w]
                  rfl
                refine pure_ (i := 19) (N := some 75) (v := undef) (a' := ?_) #[true,true,true,true,true,true,true,true,true,true,true,true,true,true,true,true,true,true,true,true,false,false,false] rfl rfl (by kernel_rfl) (fun _ _ _ h => h) (Or.inr ⟨by rfl, rfl⟩) ?_ ?_
                rotate_left
                · simp only [Act.put, zA, zB, zC, i64_w, i32_w]
                  rfl
                refine pure_ (i := 20) (N := some 76) (v := undef) (a' := ?_) #[true,true,true,true,true,true,true,true,true,true,true,true,true,true,true,true,true,true,true,true,true,false,false] rfl rfl (by kernel_rfl) (fun _ _ _ h => h) (Or.inr ⟨by rfl, rfl⟩) ?_ ?_
                rotate_left
                · simp only [Act.put, zA, zB, zC, i64_w, i32_w]
                  rfl
                refine pure_ (i := 21) (N := some 77) (v := ?_) (a' := ?_) #[true,true,true,true,true,true,true,true,true,true,true,true,true,true,true,true,true,true,true,true,true,true,false] rfl rfl (by kernel_rfl) (fun _ _ _ h => h) (Or.inl ⟨by rfl, ?_⟩) ?_ ?_
                rotate_left
                · intro w'
                  go_simp
                  with_reducible rfl
                rotate_left
                · simp only [Act.put, zA, zB, zC, i64_w, i32_w]
                  rfl
                refine pure_ (i := 22) (N := some 6) (v := ?_) (a' := ?_) #[true,true,true,true,true,true,true,true,true,true,true,true,true,true,true,true,true,true,true,true,true,true,true] rfl rfl (by kernel_rfl) (fun _ _ _ h => h) (Or.inl ⟨by rfl, ?_⟩) ?_ ?_
                rotate_left
                · intro w'
                  go_simp
                  with_reducible rfl
                rotate_left
                · simp only [Act.put, zA, zB, zC, i64_w, i32_w]
                  rfl
                refine done_ (by kernel_rfl) ?_
                go_wp2
                go_roundw
                case rel => exact ⟨m + 1, hlm, by go_num, by rw [HSS.out], below_drew HM.out.1⟩
                case measure => simp [intOf]; omega
            · have hd4 : decide ((m : Int) < ((stepAt l j).keys.length : Int)) = false := decide_eq_false (by omega)
              have hm' : m = (stepAt l j).keys.length := by omega
              have HE2 : Aside0 (hasK (heldKeys (l.take j) ++ (stepAt l j).keys.take m) key = hasK (heldKeys (l.take (j + 1))) key) := ⟨by rw [hm']; exact HE.out⟩
              clear hm'
              go_wp2
              go_roundw
              case rel => exact ⟨j + 1, hlj, by go_num, by rw [HE2.out], HM.out.1⟩
              case measure => simp [intOf]; omega
       · have hj' : j = l.length := by omega
         subst hj'
         have hd3 : decide ((l.length : Int) < (l.length : Int)) = false := decide_eq_false (by omega)
         have HT := Aside0.mk (List.take_length (l := l))
         rw [HT.out]
         generalize hfb : hasK (heldKeys l) key = fb at *
         cases fb
         · have HX := Aside0.mk (HAN.out (by rw [HHS.out]; rfl))
           go_wp2
           go_ret
           rw [HX.out]
           exact ⟨rfl, HJ.out.2⟩
         · go_wp2
           go_roundw
           case rel => exact ⟨k + 1, hlt, by go_num, HST.out (by rw [HHS.out]; rfl), HJ.out.1⟩
           case measure => simp [intOf]; omega
    · have hd2 : decide ((k : Int) < ((stepAt l i).keys.length : Int)) = false := decide_eq_false (by omega)
      have HX : Aside0 (rr = false) := ⟨by rw [HF.out]; exact any_take HG.out.1 (by omega)⟩
      go_wp2
      go_ret
      rw [HX.out]
      exact ⟨rfl, HG.out.2.2⟩
end Go.Proofs.YthlgcibckakhbaaGreatDoor.Pl
