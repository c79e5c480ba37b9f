/- Several texts in one, in build order: PhNotes, PhWants, Pk, Join, PkList, Gx0, Gx1, PhCdF, Bx0, Bx1, PhCdW, PhOwn, PhMay, PhCdN, PhValid, PhLiveP, PhStart2, PhBrief, PhLive, PhLw1, PhR2, PhRStart, PlOpens, PhOpens, PhLawStarts, PlTabs, RowPhaseStarts. -/
import Derived.Test.YtgjddnaidjbhlaaGreatDoorMPs3
import Derived.Deep.AppendLies
import Derived.Test.YtgjddnaidjbhlaaGreatDoorMPsWMore
import Derived.Laws.BytesArg
import Derived.Laws.BitsLemmas
import Derived.IntWalk
import Derived.Test.YtgjddnaidjbhlaaGreatDoorMPsShelf
import Derived.WalkKit
import Derived.KernelRfl
import Derived.Test.YtgjddnaidjbhlaaGreatDoorProg
import Derived.Below
import Derived.Deep.Draws
import Derived.Maps.AppendAt
import Derived.OwnWalk
import Derived.Laws.MakeOwn
import Derived.Laws.OwnMore
import Derived.Deep.OwnRows
import Derived.Tactics
import Derived.Lib.ConvBytes
import Derived.Laws.Slices
import Derived.RowKit3
import Derived.Deep.LoopGhost
import Derived.Deep.QuietTactic
import Derived.BigQuiet
import Derived.WideLaws
import Derived.Deep.DeepCutAuto
import Derived.Deep.CutBlock
import Derived.Deep.RegionHeld3
import Derived.Laws.Rows
import Derived.Lib.AppendStr
import Derived.ArgAppend
import Derived.Laws.IdiomCopy
import Derived.OrdersHeld
import Derived.RowKit
import Derived.Test.YtgjddnaidjbhlaaGreatDoorMPsWWords
import Derived.Test.YtgjddnaidjbhlaaGreatDoorMPsWLast
import Derived.Test.YtgjddnaidjbhlaaGreatDoorMPsWTab
import Derived.Test.YtgjddnaidjbhlaaGreatDoorMPsWApart
import Derived.Test.YtgjddnaidjbhlaaGreatDoorMPsWArr
import Derived.Test.YtgjddnaidjbhlaaGreatDoorMPsWFoot
import Derived.Test.YtgjddnaidjbhlaaGreatDoorMPsWKept
import Derived.Test.YtgjddnaidjbhlaaGreatDoorMPsWShare
import Derived.Test.YtgjddnaidjbhlaaGreatDoorMPsWN
import Derived.Test.YtgjddnaidjbhlaaGreatDoorMPsWEqStruct
import Derived.Test.YtgjddnaidjbhlaaGreatDoorMPsWRepsOne
import Derived.Test.YtgjddnaidjbhlaaGreatDoorMPsWInv
import Derived.Test.YtgjddnaidjbhlaaGreatDoorMPsWInvWords
import Derived.WalkSmall
import Derived.Handy
import Derived.Deep.DrawnRows
import Derived.OpenShut
import Derived.Test.YtgjddnaidjbhlaaGreatDoorRows
import Derived.ProofKit
import Derived.LaidMore
import Derived.Lay
import Derived.Stop.Joined
import Derived.PinnedBridge
import Derived.Lib.LaidU8
import Derived.Test.YtgjddnaidjbhlaaGreatDoorCards
import Derived.Test.YtgjddnaidjbhlaaGreatDoorTie
import Derived.SevenTiedAt
import Derived.ShutString
import Derived.ChangeOld
import Derived.SizedLaws
import Derived.Carry
set_option linter.unusedVariables false
set_option linter.unusedSimpArgs false
/- phase.Notes (P19): walked by hand. -/
namespace Go.Proofs.YtgjddnaidjbhlaaGreatDoor.Ph
open Go.RowKit Go.IntWalk Go.Shelf Go.Proofs.YtgjddnaidjbhlaaGreatDoorW.PrintWords Go.Proofs.YtgjddnaidjbhlaaGreatDoorW.PrintLast Go.Proofs.YtgjddnaidjbhlaaGreatDoorW.PrintMore Go.Proofs.YtgjddnaidjbhlaaGreatDoor.PlName Go.Proofs.YtgjddnaidjbhlaaGreatDoor.Pl Go.Proofs.YtgjddnaidjbhlaaGreatDoor.LgMaps Go.Maps
attribute [local go_sem] Oper.semAt_some

theorem range_flat' {β : Type} (f : Nat → List β) (k : Nat) : (List.range (k + 1)).flatMap f = (List.range k).flatMap f ++ f k := by
 rw [List.range_succ, List.flatMap_append]
 simp
theorem restAt_f (l : List Step) (x : Inst) (o : List Nat) (f : Nat → Bool) (hf : ∀ i, f i = (turnTold x i || (o.contains i && toldAt l x i || false))) (i : Nat) : restAt l x o i = if !(x.cause == 0) && (!(f i) && (decide (2 ≤ stOf x.steps i) && decide (stOf x.steps i ≤ 4))) then [markOf x (stOf x.steps i) i] else [] := by
 unfold restAt
 rw [show f i = ((o.contains i && toldAt l x i) || turnTold x i) by rw [hf, Bool.or_false, Bool.or_comm]]
theorem freedAt_len (x : Inst) (i : Nat) : (freedAt x i).length ≤ 1 := by
 unfold freedAt
 split <;> simp
/-- No panic. -/
def NP (Q : Exit → Act → World → Prop) : Exit → Act → World → Prop
 | .panic _, _, _ => False
 | e, a, w => Q e a w
theorem NP_imp (Q : Exit → Act → World → Prop) (e : Exit) (a : Act) (w : World) (h : NP Q e a w) : Q e a w := by
 cases e <;> first | exact h | exact h.elim
theorem turnN_len (x : Inst) : (turnN x).length ≤ 1 := by
 unfold turnN
 repeat' split
 all_goals simp
theorem restAt_len (l : List Step) (x : Inst) (o : List Nat) (i : Nat) : (restAt l x o i).length ≤ 1 := by
 unfold restAt
 split <;> simp
theorem backAt_len (x : Inst) (i : Nat) : (backAt x i).length ≤ 1 := by
 unfold backAt
 split <;> simp
set_option maxHeartbeats 16000000 in
set_option maxRecDepth 100000 in
theorem notes_yes (nm : ByteArray) (l : List Step) (A : Option Addr) (c : Nat) (x : Inst) (B : Option Addr) (cb : Nat) (w : World) (hnm : nm.size ≤ 140737488351232) (hxk : x.key.size ≤ 140737488351232) (hS : StepsAt w A l) (hb : ∀ s ∈ l, StepB s) (hn : l.length ≤ 9000000000000) (hc : l.length ≤ c) (hT : TabsAt w) (hB : Kd.C (Kd.int .i64) w B x.steps.length x.steps) (hxs : x.steps.length ≤ 17592186044416) (hyes : sortL nm l x = 1) : Calls Tryz.prog 22 #[.agg #[.string nm, .slice A l.length c], .agg #[.int .i64 x.id, .string x.key, .string x.name, .int .i64 x.version, .int .i64 x.phase, .int .i64 x.cause, .slice B x.steps.length cb, .int .i64 (x.freed 0), .int .i64 (x.freed 1), .int .i64 (x.freed 2), .int .i64 (x.freed 3)]] w fun e w' => (∃ v, e = .returned v ∧ OwnN w' w.heap.size v (notesL nm l x)) ∧ Below w.heap.size w w' := by
 obtain ⟨hhd, hx, _, hph, _⟩ := sort_open hyes
 have hca := Aside0.mk (cause_in hph hx)
 have HNL : Aside0 (notesL nm l x = (orderL l).flatMap (forthAt l x) ++ (turnN x ++ ((List.range x.steps.length).flatMap (restAt l x (orderL l)) ++ ((orderL l).reverse.flatMap (backAt x) ++ (if overL x then noteOf x 7 :: (List.range 4).flatMap (freedAt x) else []))))) := ⟨by
  unfold notesL
  rw [hyes, if_neg (by decide), if_neg (by decide)]
  rfl⟩
 have hl8 := (defOk_len (headOk_def hhd)).2.1
 have hso := Aside0.mk (fun W (h : Below w.heap.size w W) => (by
  have := sort_calls nm l A c x B cb W hnm hxk (hS.below h) hb hn hc (tabs_on hT h) (Kd.C_below hB h) hxs
  rw [hyes] at this
  exact this : Calls Tryz.prog 52 #[.agg #[.string nm, .slice A l.length c, .int .i64 x.id, .string x.key, .string x.name, .int .i64 x.version, .int .i64 x.phase, .int .i64 x.cause, .slice B x.steps.length cb, .int .i64 (x.freed 0), .int .i64 (x.freed 1), .int .i64 (x.freed 2), .int .i64 (x.freed 3)]] W fun e w' => e = .returned (.int .i64 1) ∧ Below W.heap.size W w'))
 have hor := Aside0.mk (fun W (h : Below w.heap.size w W) => order_calls nm l A c W hnm (hS.below h) hb hn hc (tabs_on hT h))
 have hok := headOk_def hhd
 have hA := Aside0.mk (defOk_acyc hok)
 have hfo := Aside0.mk (fun (W : World) (v : Value) (L : List Note) (n : Nat) (T : Int → Nat) (f : Nat → Bool) (o : List Nat) (Ao : Option Addr) (ca : Nat) (h : No w W nm l A c x B cb v L n T) (hf : TB T f) (hod : Od W (.slice Ao o.length ca) o) (hoi : ∀ i ∈ o, i < l.length) (ho8 : o.length ≤ 8) (hL : L.length ≤ 50) (hn : n ≤ 50) => forth_calls o h.wx hf hod hoi ho8 hL hn (by omega) hx hok hnm hS hb hc hT)
 have HX := Aside0.mk (And.intro hx hok)
 have H0 := Aside0.mk (No.start nm l A c x B cb w hB)
 clear hnm hxk hS hb hn hT hB hxs hyes hhd hx hok hph
 have hmm := @run_makeMap Tryz.prog
 refine (callsIn_wide (n := 5)).1 ?_
 refine callsIn_of_wp_marks Tryz.func22 rfl trivial (wpIn_mono (Q := NP _) ?_ (NP_imp _)) rfl
 refine wpIn_wide.2 ?_
 simp only [Tryz.ntmps22, List.size_toArray, List.length_cons, List.length_nil, Nat.reduceAdd, Nat.reduceSub, Array.replicate_succ, Array.replicate_zero, List.push_toArray, List.append_toArray, List.nil_append, List.cons_append]
 go_upto_region 2 with fail
 generalize World.alloc (World.alloc _ _) _ = w0 at *
 have hq4 := H0.out.qx.cell
 obtain ⟨hv0, hv1, hv2, hv3, hv4, hv5, hv6, hv7, hv8, hv9, hv10, hv11, hv12, _, _⟩ := H0.out.wx.cells
 go_upto_region 8 with (first | (go_at_call 52; refine (hso.out _ H0.out.dx.below).mono ?_; rintro e w1 ⟨rfl, hb1⟩; have H1 := Aside0.mk (H0.out.on hb1); clear hb1))
 clear hq4 hv0 hv1 hv2 hv3 hv4 hv5 hv6 hv7 hv8 hv9 hv10 hv11 hv12 hso
 have b12 := below_one w1 (.cells #[.slice none 0 0] 25)
 have r2 := alloc1 w1 (.cells #[.slice none 0 0] 25)
 have s2 := alloc_n w1 (.cells #[.slice none 0 0] 25)
 have hd := (H1.out.on b12).dx.d
 have ho := hor.out _ (on_ H1.out.dx.below b12)
 rw [HX.out.2] at ho
 replace ho := Aside0.mk ho
 obtain ⟨hd0, hd1⟩ := hd
 generalize hbo : w1.heap.size = bo at *
 generalize World.alloc w1 _ = w2 at *
 have HW := Aside0.mk (And.intro b12 (And.intro r2 s2))
 clear b12 r2 s2 hor
 go_wp2_with (first | (go_at_call 53; refine ho.out.mono ?_; rintro e w4 ⟨⟨bg, rfl, hlo, gg, v, rb, hbg, hg⟩, hb4⟩; have H4 := Aside0.mk (And.intro hlo (And.intro hbg (And.intro hg hb4))); clear hlo hbg hg hb4))
 obtain ⟨i3, hi3, hz3, hs3, hb3⟩ := info_parts int_info
 have HI := Aside0.mk (And.intro hi3 (And.intro hz3 (And.intro hs3 hb3)))
 clear hi3 hz3 hs3 hb3 hd0 hd1
 have h34 := H4.out.2.2.2.size
 have hl0 := (defOk_len HX.out.2).1
 have e50 : ∀ args w, (callFunc 116 args).run Tryz.prog w = .ok (.enter 116 args) w := fun _ _ => by kernel_rfl
 have h0 : Col0 w1 w4 w4 w2.heap.size bo (fun k => w2.heap.size ≤ k ∧ k < w4.heap.size) (.slice none 0 0) [] := by
  have q2 := (Array.getElem?_eq_some_iff.1 HW.out.2.1).1
  have := HW.out.2.2
  exact ⟨⟨row_on H4.out.2.2.2 HW.out.2.1, World.ownsRow_nil _ _ _ _⟩, fun e => by omega, fun k hk => (by cases hk), fun k hk => hk, by rw [hbo]; exact HW.out.1.trans (H4.out.2.2.2.mono (by omega)), by omega⟩
 refine wpIn_wide (n := 5).1 ?_
 refine wpIn_rangeFunc_Y (gf := 116) (lb := #[.pointer (some ⟨bg, 0, none⟩)]) rfl e50 (seq_order H4.out.2.1 H4.out.1 H4.out.2.2.1 hA.out (by omega) hl0) (Keep.refl _ _) (fun k hk => hk.2) (fun _ => rfl)
  (fun pre Y W => ∃ v, Col0 w1 w4 W w2.heap.size bo Y v pre)
  (fun pre Y W1 W2 ⟨v, h⟩ hc => ⟨v, h.chg hc⟩) (fun pre Y Y' W ⟨v, h⟩ hy => ⟨v, h.mono hy⟩) (fun pre Y W q o o' ⟨v, h⟩ hq ho hno => ⟨v, h.put hq ho hno⟩)
  ⟨_, h0⟩ ?a1 ?assign ?body ?done
 case assign =>
  intro l x W K hK
  gi_wp2
  exact hK
 case body =>
  rintro q pre x Y W ⟨v, hcol⟩ ⟨hlen, hx⟩
  have HC := Aside0.mk hcol
  have hq1 := row_cell (j := 0) hcol.told.box rfl
  have hw : w1.heap.size ≤ W.heap.size := hcol.below.size
  clear hcol
  gi_wp2_with (first | (gi_at_builtin; refine wpListIn_append_where _ rfl (.tmp 40) (.tmp 42) 25 rfl w1.heap.size 3 i3 (.int .i64 0) 8 Tryz.underlying25 HI.out.1 HI.out.2.1 HI.out.2.2.1 HI.out.2.2.2 rfl v pre.length (selV pre) rfl (HC.out.told.own.alloc _) ⟨W.heap.size, 0, none⟩ 1 (.int .i64 (x : Int)) rfl (one_new _ _ _) (by intro u hu; simp at hu; subst hu; rfl) (by unfold maxLen; omega) (by omega) (by simp; omega) ?_; intro v6 w6 hown6 hgr6 hwh6; obtain ⟨g6, cap6, rfl⟩ := own_some hown6; have HL := Aside0.mk (laid HC.out.told (Below.refl _ _) hown6 hgr6); have hc6 := row_cell (j := 0) HL.out.1 rfl; have hf6 := free_of_row (j := 0) HL.out.1; have HN := Aside0.mk (HC.out.push HL.out.2.2 HL.out.2.1 (fun k hk => (hwh6 k hk).imp_right fun h => Nat.le_trans (below_one W _).size h)); clear hown6 hgr6 hwh6))
  refine ⟨keepsFrom_chg HL.out.2.2 (fun k hk o ho => ?_), HN.out.2, _, HN.out.1⟩
  rcases hk with e | e
  · subst e
    rw [HC.out.told.box] at ho
    injection ho with ho
    subst ho
    rfl
  · obtain ⟨cs, hcs⟩ := own_typed HC.out.told.own k e
    rw [hcs] at ho
    injection ho with ho
    subst ho
    rfl
 case done =>
  rintro D ys Y W hD rfl ⟨v1, hcol⟩ hK
  have HOO : Aside0 ((∀ i ∈ orderL l, i < l.length) ∧ (orderL l).length ≤ 8) := ⟨(ordL_ok hA.out (Nat.le_refl _)).2.1, by unfold orderL; rw [ordL_len]; omega⟩
  have HQ : ∃ Ao ca, v1 = .slice Ao (orderL l).length ca ∧ Nq w W nm l A c x B cb (.slice none 0 0) [] 0 (fun _ => 0) bo Ao ca (orderL l) D := by
   have hown := hcol.told.own
   obtain ⟨Ao, ca, e, _, _⟩ := own_reads hown
   have e : v1 = .slice Ao (orderL l).length ca := e
   subst e
   have h1 := H1.out.lt (.inl ⟨by omega, by omega⟩ : Rw w (.slice none 0 0) (w.heap.size + 4))
   exact ⟨Ao, ca, rfl, H1.out.on hcol.below, hcol.told.box, ⟨_, hown⟩, hK, by have := HW.out.2.2; omega, fun k hk => by have := (hown.lt k hk).1; omega⟩
  obtain ⟨Ao, ca, rfl, hQ⟩ := HQ
  have HO := Aside0.mk (show ordL (wars (direct l) l.length) l.length l.length = orderL l from rfl)
  have H5 := Aside0.mk (And.intro hQ hcol.below)
  clear hcol hK h0 H4 HW hD h34 e50 hQ HI ho H1 H0 hl0 HO hA
  generalize orderL l = o at *
  obtain ⟨hq4, hqo, hq5, hq6, hq14⟩ := H5.out.1.cells
  go_upto_region 12 with (first | (go_at_call 54; refine (hfo.out _ _ _ _ _ (fun _ => false) o Ao ca H5.out.1.no (fun i => rfl) H5.out.1.od HOO.out.1 HOO.out.2 (by simp) (by omega)).mono ?_; rintro e w6 ⟨rfl, v6, T6, hw6, ht6, hf6⟩; have H6 := Aside0.mk (And.intro (H5.out.1.next hw6 hf6) ht6); clear hw6 ht6 hf6; obtain ⟨hr4, hro, hr5, hr6, hr14⟩ := H6.out.1.cells))
  have HF1 : Aside0 ((([] : List Note) ++ o.flatMap (forthAt l x)).length ≤ 16 ∧ x.steps.length ≤ 8) := ⟨by
   have h1 := flat_len 2 (forthAt_len l x) o
   have := HOO.out.2
   rw [List.nil_append]
   omega, by have := HX.out.1; omega⟩
  have htu := Aside0.mk (wturn_calls H6.out.1.no.wx H6.out.2 (by have := HF1.out.1; omega) (by have := HOO.out.2; omega) HF1.out.2 hca.out.1 hca.out.2)
  clear hq4 hqo hq5 hq6 hq14 H5 hfo
  go_upto_region 13 with (first | (go_at_call 55; refine htu.out.mono ?_; rintro e w7 ⟨rfl, v7, T7, hw7, ht7, hf7⟩; have H7 := Aside0.mk (And.intro (H6.out.1.next hw7 hf7) ht7); clear hw7 ht7 hf7))
  clear hr4 hro hr5 hr6 hr14 H6 htu
  have HL7 : Aside0 (([] ++ o.flatMap (forthAt l x) ++ turnN x : List Note).length ≤ 17 ∧ 0 + o.length + 1 ≤ 9) := ⟨by
   have h1 := HF1.out.1
   have h2 := turnN_len x
   rw [List.length_append]
   omega, by have := HOO.out.2; omega⟩
  have HLN : Aside0 (notesL nm l x = ([] ++ o.flatMap (forthAt l x) ++ turnN x) ++ ((List.range x.steps.length).flatMap (restAt l x o) ++ (o.reverse.flatMap (backAt x) ++ (if overL x then noteOf x 7 :: (List.range 4).flatMap (freedAt x) else [])))) := ⟨by
   rw [HNL.out]
   simp⟩
  have HRA : Aside0 (∀ i, restAt l x o i = if !(x.cause == 0) && (!((fun i => turnTold x i || (o.contains i && toldAt l x i || false)) i) && (decide (2 ≤ stOf x.steps i) && decide (stOf x.steps i ≤ 4))) then [markOf x (stOf x.steps i) i] else []) := ⟨fun i => restAt_f l x o (fun i => turnTold x i || (o.contains i && toldAt l x i || false)) (fun _ => rfl) i⟩
  generalize (fun i => turnTold x i || (o.contains i && toldAt l x i || false)) = f7 at *
  generalize ([] ++ o.flatMap (forthAt l x) ++ turnN x : List Note) = L7 at *
  generalize 0 + o.length + 1 = n7 at *
  clear HNL HF1 hca
  obtain ⟨hq4, hqo, hq5, hq6, hq14⟩ := H7.out.1.cells
  go_wp2_with fail
  go_loopw [52] (fun v52 wr => ∃ (k : Nat) (v1 : Value) (T1 : Int → Nat), k ≤ x.steps.length ∧ v52 = .int .i64 (k : Int) ∧ Nq w wr nm l A c x B cb v1 (L7 ++ (List.range k).flatMap (restAt l x o)) (n7 + k) T1 bo Ao ca o D ∧ (∀ i : Nat, k ≤ i → (((T1 (i : Int) : Nat) : Int) == 0) = !f7 i)) (fun v52 _ => x.steps.length - (intOf v52).toNat)
  case atStart => exact ⟨0, v7, T7, Nat.zero_le _, rfl, by simpa using H7.out.1, fun i _ => H7.out.2 i⟩
  case round =>
   obtain ⟨k, v1, T1, hk, rfl, hN, hf1⟩ := hrel
   have HG := Aside0.mk (And.intro hN hf1)
   clear hN hf1 H7 hq4 hqo hq5 hq6 hq14
   obtain ⟨hq4, hqo, hq5, hq6, hq14⟩ := HG.out.1.cells
   by_cases hlt : k < x.steps.length
   · have hd1 : decide ((k : Int) < (x.steps.length : Int)) = true := decide_eq_true (by omega)
     have hk8 : k < 8 := by have := HX.out.1; omega
     obtain ⟨ab, rfl, hy⟩ := int_at HG.out.1.no.wx.reads hlt
     rw [st_get hlt] at hy
     have hlook := HG.out.1.no.wx.told.look (i := (k : Int)) (WalkArith.wf_i64 (by omega))
     have hz := HG.out.2 k (Nat.le_refl _)
     have HT := Aside0.mk (range_flat' (restAt l x o) k)
     have HRK := Aside0.mk (HRA.out k)
     have hLk : (L7 ++ (List.range k).flatMap (restAt l x o)).length ≤ 30 := by
      have h1 := flat_len 1 (restAt_len l x o) (List.range k)
      have h2 := HL7.out.1
      rw [List.length_range] at h1
      rw [List.length_append]
      omega
     have hnk : n7 + k ≤ 30 := by have := HL7.out.2; omega
     have hmk := Aside0.mk (fun (s : Int) => mark_tells HG.out.1.no.wx k s (by omega) (by omega) (by omega))
     have hno : Aside0 (restAt l x o k = [] → Nq w wr nm l A c x (some ab) cb v1 (L7 ++ (List.range (k + 1)).flatMap (restAt l x o)) (n7 + (k + 1)) T1 bo Ao ca o D ∧ ∀ i : Nat, k + 1 ≤ i → (((T1 (i : Int) : Nat) : Int) == 0) = !f7 i) := ⟨fun e => by
      rw [HT.out, e, List.append_nil]
      have h := HG.out.1
      exact ⟨⟨h.no.mono (by omega), h.ob, h.od, h.dd, h.lo, h.olo⟩, fun i hi => HG.out.2 i (by omega)⟩⟩
     have hye : Aside0 (∀ (wy : World) (v2 : Value), restAt l x o k = [markOf x (stOf x.steps k) k] → Wx w wy (w.heap.size + 1 + 1 + 1) nm l A c x (some ab) cb v2 (L7 ++ (List.range k).flatMap (restAt l x o) ++ [markOf x (stOf x.steps k) k]) (w.heap.size + 1 + 1) (n7 + k + 1) (upd T1 k) → Fr wr wy (w.heap.size + 1 + 1 + 1) (w.heap.size + 1 + 1) v1 v2 → Nq w wy nm l A c x (some ab) cb v2 (L7 ++ (List.range (k + 1)).flatMap (restAt l x o)) (n7 + (k + 1)) (upd T1 k) bo Ao ca o D ∧ ∀ i : Nat, k + 1 ≤ i → (((upd T1 k (i : Int) : Nat) : Int) == 0) = !f7 i) := ⟨fun wy v2 e hw hfr => by
      rw [HT.out, e, ← List.append_assoc]
      refine ⟨HG.out.1.next hw hfr, fun i hi => ?_⟩
      unfold Ph.upd
      rw [if_neg (by omega)]
      exact HG.out.2 i (by omega)⟩
     have hxc : (x.cause != 0) = !(x.cause == 0) := rfl
     clear HT hLk hnk HRA
     generalize restAt l x o k = ra at *
     generalize stOf x.steps k = y at *
     generalize T1 (k : Int) = tk at *
     generalize hf7k : f7 k = fk at *
     have HRR : Aside0 (ra = if (!(x.cause == 0) && (!fk && (decide (2 ≤ y) && decide (y ≤ 4)))) = true then [markOf x y k] else []) := ⟨HRK.out⟩
     clear HRK hf7k
     generalize hc0 : (x.cause == 0) = c0 at *
     generalize hg2 : decide (2 ≤ y) = g2 at *
     generalize hg4 : decide (y ≤ 4) = g4 at *
     rcases (by cases c0 <;> cases fk <;> cases g2 <;> cases g4 <;> simp : c0 = true ∨ (c0 = false ∧ fk = true) ∨ (c0 = false ∧ fk = false ∧ g2 = false) ∨ (c0 = false ∧ fk = false ∧ g2 = true ∧ g4 = false) ∨ (c0 = false ∧ fk = false ∧ g2 = true ∧ g4 = true)) with rfl | ⟨rfl, rfl⟩ | ⟨rfl, rfl, rfl⟩ | ⟨rfl, rfl, rfl, rfl⟩ | ⟨rfl, rfl, rfl, rfl⟩
     case inr.inr.inr.inr =>
      have hra : Aside0 (ra = [markOf x y k]) := ⟨HRR.out⟩
      (try simp only [Bool.not_true, Bool.not_false] at hz hxc)
      go_wp2_with (first | (go_at_call 56; refine (hmk.out _).mono ?_; rintro e w9 ⟨rfl, v2, hw2, hfr2⟩; have H9 := Aside0.mk (hye.out _ _ hra.out hw2 hfr2); clear hw2 hfr2))
      go_roundw
      case rel => exact ⟨k + 1, v2, _, hlt, by go_num, H9.out.1, H9.out.2⟩
      case measure => simp [intOf]; omega
     all_goals
      have hra : Aside0 (ra = []) := ⟨HRR.out⟩
      (try simp only [Bool.not_true, Bool.not_false] at hz hxc)
      go_wp2_with fail
      go_roundw
      case rel => exact ⟨k + 1, v1, T1, hlt, by go_num, (hno.out hra.out).1, (hno.out hra.out).2⟩
      case measure => simp [intOf]; omega
   · have hk' : k = x.steps.length := by omega
     subst hk'
     have hd1 : decide ((x.steps.length : Int) < (x.steps.length : Int)) = false := decide_eq_false (by omega)
     have HL8 : Aside0 ((L7 ++ (List.range x.steps.length).flatMap (restAt l x o)).length ≤ 25 ∧ n7 + x.steps.length ≤ 17) := ⟨by
      have h1 := flat_len 1 (restAt_len l x o) (List.range x.steps.length)
      have h2 := HL7.out.1
      have h3 := HX.out.1
      rw [List.length_range] at h1
      rw [List.length_append]
      omega, by have := HL7.out.2; have := HX.out.1; omega⟩
     have HLN2 : Aside0 (notesL nm l x = (L7 ++ (List.range x.steps.length).flatMap (restAt l x o)) ++ (o.reverse.flatMap (backAt x) ++ (if overL x then noteOf x 7 :: (List.range 4).flatMap (freedAt x) else []))) := ⟨by rw [HLN.out, List.append_assoc]⟩
     clear HLN HL7 HRA
     generalize L7 ++ (List.range x.steps.length).flatMap (restAt l x o) = L8 at *
     generalize n7 + x.steps.length = n8 at *
     go_wp2_with (first | (go_at_call 57; refine (backward_calls Ao o.length ca _).mono ?_; rintro e w9 ⟨rfl, rfl⟩))
     have hr9 := alloc1 wr (.cells #[.slice Ao o.length ca] 25)
     have hb9 := below_one wr (.cells #[.slice Ao o.length ca] 25)
     have hs9 := alloc_n wr (.cells #[.slice Ao o.length ca] 25)
     generalize World.alloc wr _ = w9 at *
     have H9 := Aside0.mk (HG.out.1.on hb9)
     have HR9 := Aside0.mk (And.intro hr9 (And.intro hb9 hs9))
     clear hb9 hq4 hqo hq5 hq6 hq14
     have e125 : ∀ args w, (callFunc 125 args).run Tryz.prog w = .ok (.enter 125 args) w := fun _ _ => by kernel_rfl
     have hseq := seq_back (w0 := w9) (cs := ca) o hr9 (fun k => k = wr.heap.size ∨ (Value.slice Ao o.length ca).ownBlock = some k) (.inl rfl) (fun W hK => (by
      obtain ⟨base, ho⟩ := H9.out.od
      obtain ⟨A', c', e, hC⟩ := Od.reads ⟨base, own_move ho fun k hk => hK.same k (.inr hk)⟩
      cases e
      exact hC)) (by have := HOO.out.2; omega)
     have hlt9 : ∀ k, (k = wr.heap.size ∨ (Value.slice Ao o.length ca).ownBlock = some k) → w.heap.size + 4 < k ∧ k < w9.heap.size := by
      have h1 := HG.out.1.no.lt (.inl ⟨by omega, by omega⟩ : Rw w v1 (w.heap.size + 4))
      have h2 := HR9.out.2.2
      rintro k (e | e)
      · omega
      · obtain ⟨base, ho⟩ := HG.out.1.od
        have := (ho.lt k e).2
        have := HG.out.1.olo k e
        omega
     have hI0 : Nb w w9 nm l A c x B cb v1 (L8 ++ (o.reverse.take ([] : List Nat).length).flatMap (backAt x)) (n8 + ([] : List Nat).length) T1 D (fun k => k = wr.heap.size ∨ (Value.slice Ao o.length ca).ownBlock = some k) := by
      refine ⟨by simpa using H9.out.no, H9.out.dd, H9.out.lo.2, fun k hk e => ?_, fun e => ?_, fun k hk => ?_⟩
      · have h3 := HG.out.1.no.lt hk
        rcases e with e | e
        · omega
        · rcases hk with hk | hk
          · have := HG.out.1.olo k e
            omega
          · obtain ⟨base, ho⟩ := HG.out.1.od
            obtain ⟨c1, hc1⟩ := own_typed ho k e
            obtain ⟨c2, hc2⟩ := own_typed HG.out.1.no.wx.own k hk
            rw [hc1] at hc2
            injection hc2 with hc2
            injection hc2 with _ hc2
            exact absurd hc2 (by decide)
      · have h3 := (Array.getElem?_eq_some_iff.1 HG.out.1.dd).1
        rcases e with e | e
        · omega
        · obtain ⟨base, ho⟩ := HG.out.1.od
          obtain ⟨c1, hc1⟩ := own_typed ho D e
          rw [HG.out.1.dd] at hc1
          cases hc1
      · have := hlt9 k hk
        omega
     refine wpIn_wide (n := 5).1 ?_
     refine wpIn_rangeFunc_Y (gf := 125) (lb := #[.pointer (some ⟨wr.heap.size, 0, none⟩)]) rfl e125 hseq (Keep.refl _ _) (fun k hk => (hlt9 k hk).2) (fun _ => rfl)
      (fun pre Y W => pre = List.range pre.length ∧ ∃ v T, Nb w W nm l A c x B cb v (L8 ++ (o.reverse.take pre.length).flatMap (backAt x)) (n8 + pre.length) T D Y)
      (fun pre Y W1 W2 ⟨hp, v, T, h⟩ hc => ⟨hp, v, T, h.chg hc⟩) (fun pre Y Y' W ⟨hp, v, T, h⟩ hy => ⟨hp, v, T, h.mono hy⟩) (fun pre Y W q o o' ⟨hp, v, T, h⟩ hq ho hno => ⟨hp, v, T, h.put (by have := (Array.getElem?_eq_some_iff.1 H9.out.dd).1; omega) ho hno⟩)
      ⟨rfl, _, _, hI0⟩ ?a2 ?assign2 ?body2 ?done2
     case assign2 =>
      intro l x W K hK
      unfold backE
      gi_wp2
      exact hK
     case body2 =>
      rintro q pre t Y W ⟨hp, v2, T2, hNb⟩ ⟨rfl, htn⟩
      have HG2 := Aside0.mk hNb
      have hrl : pre.length < o.reverse.length := by rw [List.length_reverse]; exact htn
      have hge : o.reverse[pre.length]'hrl = bkAt o pre.length := by
       unfold bkAt
       rw [List.getElem_reverse, List.getD_eq_getElem?_getD, List.getElem?_eq_getElem (show o.length - 1 - pre.length < o.length by omega)]
       rfl
      have HT := Aside0.mk (take_flat (f := backAt x) hrl)
      rw [hge] at HT
      have hio : bkAt o pre.length < l.length := by
       rw [← hge]
       exact HOO.out.1 _ (List.mem_reverse.1 (List.getElem_mem hrl))
      have HPP : Aside0 (pre ++ [pre.length] = List.range (pre ++ [pre.length]).length ∧ (pre ++ [pre.length]).length = pre.length + 1) := ⟨by
       rw [List.length_append, List.length_singleton, List.range_succ, ← hp], by simp⟩
      have hix : bkAt o pre.length < x.steps.length := by have := HX.out.1; omega
      obtain ⟨ab, rfl, hy⟩ := int_at hNb.no.wx.reads hix
      rw [st_get hix] at hy
      have hqc := hNb.no.qx.cell
      have hq6 := row_cell (j := 6) hNb.no.dx.xbox rfl
      have hd1 : decide ((bkAt o pre.length : Int) < (x.steps.length : Int)) = true := decide_eq_true (by omega)
      have hL2 : (L8 ++ (o.reverse.take pre.length).flatMap (backAt x)).length ≤ 100 := by
       have h1 := flat_len 1 (backAt_len x) (o.reverse.take pre.length)
       have h2 := HL8.out.1
       have h3 := HOO.out.2
       rw [List.length_take, List.length_reverse] at h1
       rw [List.length_append]
       omega
      have hn2 : n8 + pre.length ≤ 100 := by have := HL8.out.2; have := HOO.out.2; omega
      have hmk := Aside0.mk (mark_tells hNb.no.wx (bkAt o pre.length) 5 (by omega) hL2 hn2)
      have HBA : Aside0 (∀ i, backAt x i = if stOf x.steps i == 5 then [markOf x 5 i] else []) := ⟨fun _ => rfl⟩
      clear hNb hge hL2 hn2 hp hrl hio
      generalize hi : bkAt o pre.length = i at *
      have HBI := Aside0.mk (HBA.out i)
      clear HBA hi
      generalize backAt x i = ba at *
      generalize stOf x.steps i = y at *
      cases hy5 : (y == 5)
      · gi_wp2
        refine ⟨KeepsFrom.refl _ _, Keep.refl _ _, HPP.out.1, v2, T2, ?_⟩
        rw [HPP.out.2, HT.out, HBI.out, hy5, if_neg (by decide), List.append_nil]
        have h := HG2.out
        exact ⟨h.no.mono (by omega), h.dd, h.lo, h.off, h.offD, h.yb⟩
      · gi_wp2_with (first | (refine ⟨trivial, ?_⟩; gi_at_call 56; refine (CallsIn.inRound q (callsIn_wide.2 hmk.out)).mono ?_; rintro e w10 ⟨rfl, v3, hw3, hfr3⟩; have H10 := Aside0.mk (HG2.out.next hw3 hfr3); clear hw3 hfr3))
        refine ⟨?_, H10.out.2.1, HPP.out.1, v3, upd T2 i, ?_⟩
        · rcases H10.out.2.2 w9.heap.size with h | h
          · exact h
          · have := HG.out.1.no.lt (.inl ⟨by omega, by omega⟩ : Rw w v1 (w.heap.size + 4))
            have := HR9.out.2.2
            omega
        · rw [HPP.out.2, HT.out, HBI.out, hy5, if_pos rfl, ← List.append_assoc]
          exact H10.out.1
     case done2 =>
      rintro D2 ys Y W hD2 rfl ⟨hp, v2, T2, hNb⟩ hK2
      have HE : Aside0 (Ne w W nm l A c x B cb v2 (L8 ++ o.reverse.flatMap (backAt x)) (n8 + o.length) T2 D D2) := ⟨by
       have h := hNb.no
       rw [List.length_range, List.take_of_length_le (by rw [List.length_reverse]; exact Nat.le_refl _)] at h
       exact ⟨h, hNb.dd, hK2, hNb.lo, by have := (Array.getElem?_eq_some_iff.1 H9.out.dd).1; omega⟩⟩
      have HL9 : Aside0 ((L8 ++ o.reverse.flatMap (backAt x)).length ≤ 40) := ⟨by
       have h1 := flat_len 1 (backAt_len x) o.reverse
       have h2 := HL8.out.1
       have h3 := HOO.out.2
       rw [List.length_reverse] at h1
       rw [List.length_append]
       omega⟩
      have HLN3 : Aside0 (notesL nm l x = (L8 ++ o.reverse.flatMap (backAt x)) ++ (if overL x then noteOf x 7 :: (List.range 4).flatMap (freedAt x) else [])) := ⟨by rw [HLN2.out, List.append_assoc]⟩
      clear hp hNb hK2 hD2 HLN2 hI0 hseq hlt9 H9 HR9 HG
      generalize L8 ++ o.reverse.flatMap (backAt x) = L9 at *
      generalize n8 + o.length = n9 at *
      have hov := Aside0.mk (fun W => over_calls nm l A c x B cb W)
      obtain ⟨hq4, hq0, hq7, hq8, hq9, hq10, hq13⟩ := HE.out.cells
      obtain ⟨hv0, hv1, hv2, hv3, hv4, hv5, hv6, hv7, hv8, hv9, hv10, hv11, hv12, _, _⟩ := HE.out.no.wx.cells
      generalize hovx : overL x = ov at *
      cases ov
      · go_wp2_with (first | (go_at_call 58; refine (hov.out _).mono ?_; rintro e w11 ⟨rfl, hb11⟩; have H11 := Aside0.mk (HE.out.on hb11); have hr4 := H11.out.cells.1; have hr13 := H11.out.cells.2.2.2.2.2.2; clear hb11))
        have hlv := H11.out.leave (.deferred none) (.deferred none)
        refine ⟨by simp, .inl ⟨_, _, rfl, run_takeDeferred H11.out.dd2, ⟨by simp, .inl ⟨_, _, rfl, run_takeDeferred hlv.1, ?_⟩⟩⟩⟩
        exact ⟨_, results_tmp rfl _ _ _, ⟨_, rfl, by rw [HLN3.out, if_neg (by decide), List.append_nil]; exact hlv.2.1⟩, hlv.2.2⟩
      · have hnt := Aside0.mk (fun W (h : Ne w W nm l A c x B cb v2 L9 n9 T2 D D2) => note_calls h.no.wx 7 (by have := HL9.out; omega))
        go_wp2_with (first | (go_at_call 58; refine (hov.out _).mono ?_; rintro e w11 ⟨rfl, hb11⟩; have H11 := Aside0.mk (HE.out.on hb11); have hr4 := H11.out.cells.1; clear hb11) | (go_at_call 59; refine (hnt.out _ H11.out).mono ?_; rintro e w12 ⟨rfl, v12, hw12, hf12⟩; have H12 := Aside0.mk (H11.out.next hw12 hf12); obtain ⟨hs4, hs0, hs7, hs8, hs9, hs10, hs13⟩ := H12.out.cells; clear hw12 hf12))
        clear hq4 hq0 hq7 hq8 hq9 hq10 hq13 hv0 hv1 hv2 hv3 hv4 hv5 hv6 hv7 hv8 hv9 hv10 hv11 hv12 hr4 hov hnt HE H11
        go_loopw [104] (fun v104 wz => ∃ (k : Nat) (v1 : Value), k ≤ 4 ∧ v104 = .int .i64 (k : Int) ∧ Ne w wz nm l A c x B cb v1 (L9 ++ [noteOf x 7] ++ (List.range k).flatMap (freedAt x)) n9 T2 D D2) (fun v104 _ => 4 - (intOf v104).toNat)
        case atStart => exact ⟨0, v12, Nat.zero_le _, rfl, by simpa using H12.out⟩
        case round =>
         obtain ⟨k, v1, hk, rfl, hN⟩ := hrel
         have HG := Aside0.mk hN
         clear hs4 hs0 hs7 hs8 hs9 hs10 hs13 hN H12
         obtain ⟨hq4, hq0, _, _, _, _, hq13⟩ := HG.out.cells
         by_cases hlt : k < 4
         · have hd1 : decide ((k : Int) < 4) = true := decide_eq_true (by omega)
           have hidx := idx4' x wr hlt
           have HT := Aside0.mk (range_flat' (freedAt x) k)
           have HFA : Aside0 (freedAt x k = if x.freed k == 1 then [freedOf x k] else []) := ⟨rfl⟩
           have hLk : (L9 ++ [noteOf x 7] ++ (List.range k).flatMap (freedAt x)).length ≤ 60 := by
            have h1 := flat_len 1 (freedAt_len x) (List.range k)
            have h2 := HL9.out
            rw [List.length_range] at h1
            rw [List.length_append, List.length_append, List.length_singleton]
            omega
           generalize hL10 : L9 ++ [noteOf x 7] ++ (List.range k).flatMap (freedAt x) = L10 at *
           generalize freedAt x k = fa at *
           have HL10 : Aside0 (L9 ++ [noteOf x 7] ++ (List.range (k + 1)).flatMap (freedAt x) = L10 ++ fa) := ⟨by rw [HT.out, ← List.append_assoc, hL10]⟩
           clear HT hL10
           generalize hfk : x.freed k = fk at *
           cases hf1 : (fk == 1)
           · go_wp2_with fail
             go_roundw
             case rel => exact ⟨k + 1, v1, hlt, by go_num, by rw [HL10.out, HFA.out, hf1, if_neg (by decide), List.append_nil]; exact HG.out⟩
             case measure => simp [intOf]; omega
           · obtain ⟨i37, hi37, hz37, hs37, hb37⟩ := info_parts note_info
             have HI := Aside0.mk (And.intro hi37 (And.intro hz37 (And.intro hs37 hb37)))
             have hb0 := HG.out.no.dx.below.size
             clear hi37 hz37 hs37 hb37
             go_upto_region 29 with fail
             refine start_ (n := 14) (S := fun w' => w'.cell? ⟨w.heap.size + 1 + 1 + 1 + 1, 0, none⟩ = some (.pointer (some ⟨w.heap.size + 1 + 1 + 1, 0, none⟩)) ∧ w'.cell? ⟨w.heap.size + 1, 0, none⟩ = some (.int .i64 x.id) ∧ w'.cell? ⟨w.heap.size + 1 + 1 + 1, 13, none⟩ = some v1) (ds := [13]) #[false,false,false,false,false,false,false,false,false,false,false,false,false,false] (by kernel_rfl) rfl rfl ⟨(by go_keep), (by go_keep), (by go_keep)⟩ (fun hHeld => ?_)
             refine zV 5 115 14 32 ?_
             refine zV 7 117 14 160 ?_
             refine zT 0 110 14 161 hHeld ?_
             refine zT 1 111 14 163 hHeld ?_
             refine zV 2 112 14 167 ?_
             refine zV 3 113 14 175 ?_
             refine zT 4 114 14 191 hHeld ?_
             refine zT 6 116 14 255 hHeld ?_
             refine zV 8 118 14 511 ?_
             refine one_ (i := 9) (N := some 119) (zG 14 1023) rfl rfl (by kernel_rfl) (by decide) (fun K hK => ?_)
             refine value_ (w1 := ?_) (v := ?_) (by rfl) rfl ?_ ?_
             rotate_left 2
             · go_simp
               constructor
               · rfl
               · rfl
             refine hK.out _ _ ⟨(by go_keep), (by go_keep), (by go_keep)⟩ (fun hHeld => ?_)
             clear hK K
             refine norm_ (a' := ?_) ?_ ?_
             rotate_left
             · show Act.put _ (some 119) _ = _
               simp only [Act.put, zA, zB, zC, i64_w, i32_w]
               rfl
             refine one_ (i := 10) (N := some 120) (zG 14 2047) rfl rfl (by kernel_rfl) (by decide) (fun K hK => ?_)
             refine step_append_lies _ (by rfl) _ _ _ (by rfl) w.heap.size 37 i37 _ 10 104 Tryz.underlying48 HI.out.1 HI.out.2.1 HI.out.2.2.1 HI.out.2.2.2 rfl (by decide) v1 L10.length (L10.flatMap noteC) (by rfl) ((HG.out.no.wx.own.alloc _).drew) ⟨wr.heap.size, 0, none⟩ 1 1 (noteC (freedOf x k)) (by rfl) (by rfl) (World.news_of_block (heap_alloc_new wr _)) (note_one _) (by omega) (by unfold maxLen; omega) (by omega) (by simp; omega) (wr.heap.size + 1) (by simp) ?_
             intro gg cap w20 hown1 hgrow hat hlt1
             have hgr := (grown_drew (World.grownBy_alloc wr _ _)).trans hgrow
             have HX20 := Aside0.mk (HG.out.next (HG.out.no.wx.push hown1 hgr) (Fr.push (mb := w.heap.size + 1 + 1) (p := w.heap.size + 1 + 1 + 1) (n := L10.length + 1) (cap := cap) (u := .slice (some ⟨gg, 0, none⟩) (L10.length + 1) cap) hgr hat))
             have hbx := HG.out.no.wx.after hgr
             have hqx := (HG.out.no.qx.grown HG.out.no.wx hgr).cell
             have hxx := row_cell (j := 0) ((hgr.block _ (HG.out.no.lt (.inl ⟨by omega, by omega⟩)) (fun e => HG.out.no.notNote HG.out.no.dx.xbox (fun a e => by injection e with _ e; exact absurd e (by decide)) e.symm)).trans HG.out.no.dx.xbox) rfl
             have hb13 := row_cell (j := 13) hbx rfl
             have hf13 := free_of_row (j := 13) hbx
             clear hown1 hgrow hgr hbx hat
             refine hK.out _ _ ⟨hqx, hxx, hb13⟩ (fun hHeld => ?_)
             clear hK K
             refine norm_ (a' := ?_) ?_ ?_
             rotate_left
             · show Act.put _ (some 120) _ = _
               simp only [Act.put, zA, zB, zC, i64_w, i32_w]
               rfl
             refine zV 11 121 14 4095 ?_
             refine zV 12 122 14 8191 ?_
             refine last_ (i := 13) (N := none) #[true,true,true,true,true,true,true,true,true,true,true,true,true,true] rfl rfl (by kernel_rfl) (by decide) (fun K hK => ?_)
             refine skip_ (w1 := ?_) (by rfl) rfl ?_ ?_
             rotate_left
             · go_simp
               rfl
             refine hK.out _ _ ?_
             clear hK K
             refine done_ (by kernel_rfl) ?_
             go_wp2_with fail
             go_roundw
             case rel => exact ⟨k + 1, _, hlt, by go_num, by rw [HL10.out, HFA.out, hf1, if_pos rfl]; exact HX20.out⟩
             case measure => simp [intOf]; omega
         · have hk4 : k = 4 := by omega
           subst hk4
           go_wp2_with fail
           have hlv := HG.out.leave (.deferred none) (.deferred none)
           refine ⟨by simp, .inl ⟨_, _, rfl, run_takeDeferred HG.out.dd2, ⟨by simp, .inl ⟨_, _, rfl, run_takeDeferred hlv.1, ?_⟩⟩⟩⟩
           exact ⟨_, results_tmp rfl _ _ _, ⟨_, rfl, by rw [HLN3.out, if_pos trivial]; simpa using hlv.2.1⟩, hlv.2.2⟩
set_option maxHeartbeats 16000000 in
set_option maxRecDepth 100000 in
theorem notes_no (nm : ByteArray) (l : List Step) (A : Option Addr) (c : Nat) (x : Inst) (B : Option Addr) (cb : Nat) (w : World) (hnm : nm.size ≤ 140737488351232) (hxk : x.key.size ≤ 140737488351232) (hS : StepsAt w A l) (hb : ∀ s ∈ l, StepB s) (hn : l.length ≤ 9000000000000) (hc : l.length ≤ c) (hT : TabsAt w) (hB : Kd.C (Kd.int .i64) w B x.steps.length x.steps) (hxs : x.steps.length ≤ 17592186044416) (hno : sortL nm l x = 0) : Calls Tryz.prog 22 #[.agg #[.string nm, .slice A l.length c], .agg #[.int .i64 x.id, .string x.key, .string x.name, .int .i64 x.version, .int .i64 x.phase, .int .i64 x.cause, .slice B x.steps.length cb, .int .i64 (x.freed 0), .int .i64 (x.freed 1), .int .i64 (x.freed 2), .int .i64 (x.freed 3)]] w fun e w' => (∃ v, e = .returned v ∧ OwnN w' w.heap.size v (notesL nm l x)) ∧ Below w.heap.size w w' := by
 have hso := Aside0.mk (fun W (h : Below w.heap.size w W) => (by
  have := sort_calls nm l A c x B cb W hnm hxk (hS.below h) hb hn hc (tabs_on hT h) (Kd.C_below hB h) hxs
  rw [hno] at this
  exact this : Calls Tryz.prog 52 #[.agg #[.string nm, .slice A l.length c, .int .i64 x.id, .string x.key, .string x.name, .int .i64 x.version, .int .i64 x.phase, .int .i64 x.cause, .slice B x.steps.length cb, .int .i64 (x.freed 0), .int .i64 (x.freed 1), .int .i64 (x.freed 2), .int .i64 (x.freed 3)]] W fun e w' => e = .returned (.int .i64 0) ∧ Below W.heap.size W w'))
 have HR : Aside0 (notesL nm l x = []) := ⟨by unfold notesL; rw [hno]; rfl⟩
 have H0 := Aside0.mk (No.start nm l A c x B cb w hB)
 clear hnm hxk hS hb hn hT hB hxs hno
 have hmm := @run_makeMap Tryz.prog
 refine (callsIn_wide (n := 5)).1 ?_
 refine callsIn_of_wp_marks Tryz.func22 rfl trivial ?_ rfl
 refine wpIn_wide.2 ?_
 simp only [Tryz.ntmps22, List.size_toArray, List.length_cons, List.length_nil, Nat.reduceAdd, Nat.reduceSub, Array.replicate_succ, Array.replicate_zero, List.push_toArray, List.append_toArray, List.nil_append, List.cons_append]
 go_upto_region 2 with fail
 generalize World.alloc (World.alloc _ _) _ = w0 at *
 have hq4 := H0.out.qx.cell
 obtain ⟨hv0, hv1, hv2, hv3, hv4, hv5, hv6, hv7, hv8, hv9, hv10, hv11, hv12, _, _⟩ := H0.out.wx.cells
 go_wp2_with (first | (go_at_call 52; refine (hso.out _ H0.out.dx.below).mono ?_; rintro e w1 ⟨rfl, hb1⟩; have H1 := Aside0.mk (H0.out.on hb1); clear hb1))
 exact ⟨_, results_tmp rfl _ _ _, ⟨_, rfl, by rw [HR.out]; exact ownN_nil _ _⟩, H1.out.dx.below⟩
set_option maxHeartbeats 16000000 in
set_option maxRecDepth 100000 in
theorem notes_shut (nm : ByteArray) (l : List Step) (A : Option Addr) (c : Nat) (x : Inst) (B : Option Addr) (cb : Nat) (w : World) (hnm : nm.size ≤ 140737488351232) (hxk : x.key.size ≤ 140737488351232) (hS : StepsAt w A l) (hb : ∀ s ∈ l, StepB s) (hn : l.length ≤ 9000000000000) (hc : l.length ≤ c) (hT : TabsAt w) (hB : Kd.C (Kd.int .i64) w B x.steps.length x.steps) (hxs : x.steps.length ≤ 17592186044416) (hno : sortL nm l x = 2) : Calls Tryz.prog 22 #[.agg #[.string nm, .slice A l.length c], .agg #[.int .i64 x.id, .string x.key, .string x.name, .int .i64 x.version, .int .i64 x.phase, .int .i64 x.cause, .slice B x.steps.length cb, .int .i64 (x.freed 0), .int .i64 (x.freed 1), .int .i64 (x.freed 2), .int .i64 (x.freed 3)]] w fun e w' => (∃ v, e = .returned v ∧ OwnN w' w.heap.size v (notesL nm l x)) ∧ Below w.heap.size w w' := by
 have hso := Aside0.mk (fun W (h : Below w.heap.size w W) => (by
  have := sort_calls nm l A c x B cb W hnm hxk (hS.below h) hb hn hc (tabs_on hT h) (Kd.C_below hB h) hxs
  rw [hno] at this
  exact this : Calls Tryz.prog 52 #[.agg #[.string nm, .slice A l.length c, .int .i64 x.id, .string x.key, .string x.name, .int .i64 x.version, .int .i64 x.phase, .int .i64 x.cause, .slice B x.steps.length cb, .int .i64 (x.freed 0), .int .i64 (x.freed 1), .int .i64 (x.freed 2), .int .i64 (x.freed 3)]] W fun e w' => e = .returned (.int .i64 2) ∧ Below W.heap.size W w'))
 have HR : Aside0 (notesL nm l x = [briefOf x]) := ⟨by unfold notesL; rw [hno]; rfl⟩
 have H0 := Aside0.mk (No.start nm l A c x B cb w hB)
 clear hnm hxk hS hb hn hT hB hxs hno
 have hmm := @run_makeMap Tryz.prog
 refine (callsIn_wide (n := 5)).1 ?_
 refine callsIn_of_wp_marks Tryz.func22 rfl trivial ?_ rfl
 refine wpIn_wide.2 ?_
 simp only [Tryz.ntmps22, List.size_toArray, List.length_cons, List.length_nil, Nat.reduceAdd, Nat.reduceSub, Array.replicate_succ, Array.replicate_zero, List.push_toArray, List.append_toArray, List.nil_append, List.cons_append]
 go_upto_region 2 with fail
 generalize World.alloc (World.alloc _ _) _ = w0 at *
 have hq4 := H0.out.qx.cell
 obtain ⟨hv0, hv1, hv2, hv3, hv4, hv5, hv6, hv7, hv8, hv9, hv10, hv11, hv12, _, _⟩ := H0.out.wx.cells
 go_wp2_with (first | (go_at_call 52; refine (hso.out _ H0.out.dx.below).mono ?_; rintro e w1 ⟨rfl, hb1⟩; have H1 := Aside0.mk (H0.out.on hb1); have hx0 := row_cell (j := 0) H1.out.dx.xbox rfl; have hx4 := row_cell (j := 4) H1.out.dx.xbox rfl; have hx5 := row_cell (j := 5) H1.out.dx.xbox rfl; clear hb1))
 refine ⟨_, results_tmp rfl _ _ _, ⟨_, rfl, ?_⟩, on_ H1.out.dx.below (below_one _ _)⟩
 rw [HR.out]
 have h2 := World.ownsRow_lit (base := w.heap.size) w1 (noteC (briefOf x)).toArray 1 (e := 37) (size := 10) H1.out.dx.below.size (by unfold maxLen; omega) (by rfl)
 have h3 : [briefOf x].flatMap noteC = noteC (briefOf x) := by simp
 unfold OwnN
 rw [h3]
 exact h2
theorem notes_calls (nm : ByteArray) (l : List Step) (A : Option Addr) (c : Nat) (x : Inst) (B : Option Addr) (cb : Nat) (w : World) (hnm : nm.size ≤ 140737488351232) (hxk : x.key.size ≤ 140737488351232) (hS : StepsAt w A l) (hb : ∀ s ∈ l, StepB s) (hn : l.length ≤ 9000000000000) (hc : l.length ≤ c) (hT : TabsAt w) (hB : Kd.C (Kd.int .i64) w B x.steps.length x.steps) (hxs : x.steps.length ≤ 17592186044416) : Calls Tryz.prog 22 #[.agg #[.string nm, .slice A l.length c], .agg #[.int .i64 x.id, .string x.key, .string x.name, .int .i64 x.version, .int .i64 x.phase, .int .i64 x.cause, .slice B x.steps.length cb, .int .i64 (x.freed 0), .int .i64 (x.freed 1), .int .i64 (x.freed 2), .int .i64 (x.freed 3)]] w fun e w' => (∃ v, e = .returned v ∧ OwnN w' w.heap.size v (notesL nm l x)) ∧ Below w.heap.size w w' := by
 rcases sort_three nm l x with h | h | h
 · exact notes_no nm l A c x B cb w hnm hxk hS hb hn hc hT hB hxs h
 · exact notes_yes nm l A c x B cb w hnm hxk hS hb hn hc hT hB hxs h
 · exact notes_shut nm l A c x B cb w hnm hxk hS hb hn hc hT hB hxs h
end Go.Proofs.YtgjddnaidjbhlaaGreatDoor.Ph

/- phase.Wants (P19): walked by hand. -/
namespace Go.Proofs.YtgjddnaidjbhlaaGreatDoor.Ph
open Go.RowKit Go.IntWalk Go.Proofs.YtgjddnaidjbhlaaGreatDoorW.PrintWords Go.Proofs.YtgjddnaidjbhlaaGreatDoorW.PrintLast Go.Proofs.YtgjddnaidjbhlaaGreatDoorW.PrintMore Go.Proofs.YtgjddnaidjbhlaaGreatDoor.PlName Go.Proofs.YtgjddnaidjbhlaaGreatDoor.Pl
attribute [local go_sem ↓] Go.wp_at_zero Go.wp_at_succ

theorem namedL_lt (nm : ByteArray) (l : List Step) : ∀ i ∈ namedL nm l, i < 4 := by
 unfold namedL
 split
 · exact fun i hi => (mem_sel.1 hi).1
 · exact fun i hi => (by cases hi)
theorem take_filter {α β : Type} {f : α → β} {q : α → Bool} {L : List α} {k : Nat} (h : k < L.length) : ((L.take (k + 1)).filter q).map f = ((L.take k).filter q).map f ++ (if q L[k] then [f L[k]] else []) := by
 rw [List.take_succ_eq_append_getElem h, List.filter_append, List.map_append]
 congr 1
 cases hq : q L[k] <;> simp [hq]
set_option maxHeartbeats 16000000 in
set_option maxRecDepth 100000 in
theorem wants_no (nm : ByteArray) (l : List Step) (A : Option Addr) (c : Nat) (x : Inst) (B : Option Addr) (cb : Nat) (w : World) (hnm : nm.size ≤ 140737488351232) (hxk : x.key.size ≤ 140737488351232) (hS : StepsAt w A l) (hb : ∀ s ∈ l, StepB s) (hn : l.length ≤ 9000000000000) (hc : l.length ≤ c) (hT : TabsAt w) (hB : Kd.C (Kd.int .i64) w B x.steps.length x.steps) (hxs : x.steps.length ≤ 17592186044416) (hno : sortL nm l x ≠ 1) : Calls Tryz.prog 26 #[.agg #[.string nm, .slice A l.length c], .agg #[.int .i64 x.id, .string x.key, .string x.name, .int .i64 x.version, .int .i64 x.phase, .int .i64 x.cause, .slice B x.steps.length cb, .int .i64 (x.freed 0), .int .i64 (x.freed 1), .int .i64 (x.freed 2), .int .i64 (x.freed 3)]] w fun e w' => (∃ v, e = .returned v ∧ OwnLt w' w.heap.size v (wantsL nm l x)) ∧ Below w.heap.size w w' := by
 have HV := Aside0.mk (Nx.start nm l A c x B cb w)
 have hso := Aside0.mk (fun W (h : Below w.heap.size w W) => sort_calls nm l A c x B cb W hnm hxk (hS.below h) hb hn hc (tabs_on hT h) (Kd.C_below hB h) hxs)
 have hd : (sortL nm l x != 1) = true := bne_iff_ne.2 hno
 have HR : Aside0 (wantsL nm l x = []) := ⟨by unfold wantsL; rw [if_pos hd]⟩
 clear hnm hxk hS hb hn hT hB hxs hno
 generalize sortL nm l x = so at *
 go_enter Tryz.func26, Tryz.ntmps26
 go_wp2_with (first | (go_at_call 52; refine (hso.out _ HV.out.dx.below).mono ?_; rintro e w1 ⟨rfl, hb1⟩; have H1 := Aside0.mk (HV.out.on hb1); clear hb1; obtain ⟨hq0, hq1, hq2, hq3, hq4⟩ := H1.out.cells))
 go_ret
 exact ⟨⟨_, rfl, by rw [HR.out]; exact ownLt_nil _ _⟩, H1.out.dx.below⟩
set_option maxHeartbeats 16000000 in
set_option maxRecDepth 100000 in
theorem wants_back (nm : ByteArray) (l : List Step) (A : Option Addr) (c : Nat) (x : Inst) (B : Option Addr) (cb : Nat) (w : World) (hnm : nm.size ≤ 140737488351232) (hxk : x.key.size ≤ 140737488351232) (hS : StepsAt w A l) (hb : ∀ s ∈ l, StepB s) (hn : l.length ≤ 9000000000000) (hc : l.length ≤ c) (hT : TabsAt w) (hB : Kd.C (Kd.int .i64) w B x.steps.length x.steps) (hxs : x.steps.length ≤ 17592186044416) (hyes : sortL nm l x = 1) (hp5 : x.phase = 5) : Calls Tryz.prog 26 #[.agg #[.string nm, .slice A l.length c], .agg #[.int .i64 x.id, .string x.key, .string x.name, .int .i64 x.version, .int .i64 x.phase, .int .i64 x.cause, .slice B x.steps.length cb, .int .i64 (x.freed 0), .int .i64 (x.freed 1), .int .i64 (x.freed 2), .int .i64 (x.freed 3)]] w fun e w' => (∃ v, e = .returned v ∧ OwnLt w' w.heap.size v (wantsL nm l x)) ∧ Below w.heap.size w w' := by
 have HV := Aside0.mk (Nx.start nm l A c x B cb w)
 obtain ⟨hhd, hx, _, _, _⟩ := sort_open hyes
 have hl8 := (defOk_len (headOk_def hhd)).2.1
 have hso := Aside0.mk (fun W (h : Below w.heap.size w W) => (by
  have := sort_calls nm l A c x B cb W hnm hxk (hS.below h) hb hn hc (tabs_on hT h) (Kd.C_below hB h) hxs
  rw [hyes] at this
  exact this : Calls Tryz.prog 52 #[.agg #[.string nm, .slice A l.length c, .int .i64 x.id, .string x.key, .string x.name, .int .i64 x.version, .int .i64 x.phase, .int .i64 x.cause, .slice B x.steps.length cb, .int .i64 (x.freed 0), .int .i64 (x.freed 1), .int .i64 (x.freed 2), .int .i64 (x.freed 3)]] W fun e w' => e = .returned (.int .i64 1) ∧ Below W.heap.size W w'))
 have hud := Aside0.mk (fun W (h : Below w.heap.size w W) => undo_at nm l A c B cb x.steps W hnm (hS.below h) hb (by omega) hc (tabs_on hT h) (Kd.C_below hB h) (by omega))
 have HR : Aside0 (wantsL nm l x = (undoL nm l x.steps).map (undoOf l x)) := ⟨by unfold wantsL; rw [hyes, hp5]; rfl⟩
 have HU : Aside0 ((∀ i ∈ undoL nm l x.steps, i < l.length) ∧ (undoL nm l x.steps).length ≤ 8) := ⟨by
  unfold undoL
  split
  · exact ⟨fun i hi => (mem_sel.1 hi).1, Nat.le_trans (sel_len _ _) hl8⟩
  · exact ⟨fun i hi => (by cases hi), Nat.zero_le _⟩⟩
 have HA := Aside0.mk hS
 obtain ⟨i37, hi37, hz37, hs37, hb37⟩ := info_parts lt_info
 have HI := Aside0.mk (And.intro hi37 (And.intro hz37 (And.intro hs37 hb37)))
 have hp : (x.phase == 5) = true := beq_iff_eq.2 hp5
 clear hi37 hz37 hs37 hb37 hnm hxk hS hb hn hT hB hxs hyes hhd hx hp5
 generalize undoL nm l x.steps = L at *
 go_enter Tryz.func26, Tryz.ntmps26
 go_wp2_with (first | (go_at_call 52; refine (hso.out _ HV.out.dx.below).mono ?_; rintro e w1 ⟨rfl, hb1⟩; have H1 := Aside0.mk (HV.out.on hb1); clear hb1; obtain ⟨hq0, hq1, hq2, hq3, hq4⟩ := H1.out.cells) | (go_at_call 65; refine (hud.out _ H1.out.dx.below).mono ?_; rintro e w3 ⟨⟨v3, rfl, ho3⟩, hb3⟩; obtain ⟨A3, c3, rfl, _, hr3⟩ := own_reads ho3; have H3 := Aside0.mk (And.intro (H1.out.on hb3) hr3); clear ho3 hb3 hr3))
 clear H1 hq0 hq1 hq2 hq3 hq4
 have HB0 := Aside0.mk (Below.refl w3.heap.size w3)
 go_loopw [6, 57] (fun v6 v57 wr => ∃ k : Nat, k ≤ L.length ∧ v57 = .int .i64 (k : Int) ∧ OwnLt wr w3.heap.size v6 ((L.take k).map (undoOf l x)) ∧ Below w3.heap.size w3 wr) (fun _ v57 _ => L.length - (intOf v57).toNat)
 case atStart => exact ⟨0, Nat.zero_le _, rfl, ownLt_nil _ _, HB0.out⟩
 case round =>
  obtain ⟨k, hk, rfl, hO, hB⟩ := hrel
  have HG := Aside0.mk (And.intro hO hB)
  clear HB0 hO hB
  have hLl := HU.out.2
  by_cases hlt : k < L.length
  · have hd2 : decide ((k : Int) < (L.length : Int)) = true := decide_eq_true (by omega)
    have hki : k < (intsOf L).length := by rw [intsOf_len]; exact hlt
    obtain ⟨ad3, rfl, hcell⟩ := int_at H3.out.2 hki
    have hge : (intsOf L)[k]'hki = (L[k] : Int) := by simp [intsOf]
    rw [hge] at hcell
    replace hcell := cell_on HG.out.2 hcell
    have hN := H3.out.1.on HG.out.2
    obtain ⟨ha0, ha1, ha2, ha3, ha4⟩ := hN.cells
    have hjl := HU.out.1 L[k] (List.getElem_mem hlt)
    obtain ⟨ad, rfl, A1, c1, A2, c2, h1⟩ := HA.out.one (stepAt_eq hjl)
    have hpt := (h1.below hN.dx.below).c2_
    have HPT := Aside0.mk (fun W (h : Below w.heap.size w W) => (h1.below h).c2_)
    have hd3 : decide ((L[k] : Int) < (l.length : Int)) = true := decide_eq_true (by omega)
    have HT := Aside0.mk (take_map (f := undoOf l x) hlt)
    have hmk : ((L.take k).map (undoOf l x)).length ≤ 8 := by have := HU.out.2; rw [List.length_map, List.length_take]; omega
    have hlow := HG.out.2.size
    obtain ⟨inner, hown, hpush⟩ := ownLt_open HG.out.1
    have HO := Aside0.mk (And.intro hown hpush)
    have HP : Aside0 (undoOf l x L[k] = ⟨2, (stepAt l L[k]).part, x.id, (L[k] : Int), 0, []⟩) := ⟨rfl⟩
    clear hge hki hN h1 hown hpush
    generalize (L.take k).map (undoOf l x) = M at *
    generalize (stepAt l L[k]).part = pt at *
    generalize undoOf l x L[k] = lt at *
    generalize L[k] = j at *
    go_wp2_with fail
    go_region_held3 (fun w' => w'.cell? ⟨w.heap.size, 1, none⟩ = some (.slice (some ad) l.length c) ∧ w'.cell? ⟨(ad.add (j * 5)).block, (ad.add (j * 5)).off + 2, none⟩ = some (.int .i64 pt) ∧ w'.cell? ⟨w.heap.size + 1, 0, none⟩ = some (.int .i64 x.id)) (first | go_keep | exact ⟨HN1.out.cells.2.1, HPT.out _ HN1.out.dx.below, HN1.out.cells.2.2.1⟩) ((refine step_append_lies _ (by rfl) _ _ _ (by rfl) w3.heap.size 55 i37 _ 6 64 Tryz.underlying50 HI.out.1 HI.out.2.1 HI.out.2.2.1 HI.out.2.2.2 rfl (by decide) _ M.length inner (by rfl) ((HO.out.1.alloc _).drew) ⟨wr.heap.size, 0, none⟩ 1 1 (ltC ⟨2, pt, x.id, j, 0, []⟩ (.slice none 0 0)) (by rfl) (by rfl) (World.news_of_block (heap_alloc_new wr _)) (ltC_one _ rfl) (by omega) (by unfold maxLen; omega) (by omega) (by simp; omega) (wr.heap.size + 1) (by simp) ?_; intro gg cap w1 hown1 hgrow hat hlt1; have hgr := (grown_drew (World.grownBy_alloc wr _ _)).trans hgrow; have HB1 := Aside0.mk (HG.out.2.grown hgr hlow (fun q hq => (HO.out.1.lt q hq).1)); have HN1 := Aside0.mk (H3.out.1.on HB1.out); have HL1 := Aside0.mk (HO.out.2 _ _ _ _ _ (keysO_nil _ _) hown1 hgr (hat.imp_right fun e => by omega)); clear hown1 hgrow hgr hat hlt1))
    go_wp2_with fail
    go_roundw
    case rel => exact ⟨k + 1, hlt, by go_num, by rw [HT.out, HP.out]; exact HL1.out, HB1.out⟩
    case measure => simp [intOf]; omega
  · have hk' : k = L.length := by omega
    subst hk'
    have hd2 : decide ((L.length : Int) < (L.length : Int)) = false := decide_eq_false (by omega)
    go_wp2
    go_ret
    refine ⟨⟨_, rfl, ?_⟩, H3.out.1.dx.below.trans (HG.out.2.mono H3.out.1.dx.below.size)⟩
    have ho := HG.out.1
    rw [List.take_length, ← HR.out] at ho
    exact ownLt_low ho H3.out.1.dx.below.size
theorem freed_cell (x : Inst) {j : Nat} (h : j < 4) {a0 a1 a2 a3 a4 a5 a6 : Value} : (#[a0, a1, a2, a3, a4, a5, a6, .int .i64 (x.freed 0), .int .i64 (x.freed 1), .int .i64 (x.freed 2), .int .i64 (x.freed 3)] : Array Value)[7 + j]? = some (.int .i64 (x.freed j)) := by
 match j, h with
 | 0, _ => rfl
 | 1, _ => rfl
 | 2, _ => rfl
 | 3, _ => rfl
set_option maxHeartbeats 16000000 in
set_option maxRecDepth 100000 in
theorem wants_over (nm : ByteArray) (l : List Step) (A : Option Addr) (c : Nat) (x : Inst) (B : Option Addr) (cb : Nat) (w : World) (hnm : nm.size ≤ 140737488351232) (hxk : x.key.size ≤ 140737488351232) (hS : StepsAt w A l) (hb : ∀ s ∈ l, StepB s) (hn : l.length ≤ 9000000000000) (hc : l.length ≤ c) (hT : TabsAt w) (hB : Kd.C (Kd.int .i64) w B x.steps.length x.steps) (hxs : x.steps.length ≤ 17592186044416) (hyes : sortL nm l x = 1) (hp5 : x.phase = 4 ∨ x.phase = 6) : Calls Tryz.prog 26 #[.agg #[.string nm, .slice A l.length c], .agg #[.int .i64 x.id, .string x.key, .string x.name, .int .i64 x.version, .int .i64 x.phase, .int .i64 x.cause, .slice B x.steps.length cb, .int .i64 (x.freed 0), .int .i64 (x.freed 1), .int .i64 (x.freed 2), .int .i64 (x.freed 3)]] w fun e w' => (∃ v, e = .returned v ∧ OwnLt w' w.heap.size v (wantsL nm l x)) ∧ Below w.heap.size w w' := by
 have HV := Aside0.mk (Nx.start nm l A c x B cb w)
 obtain ⟨hhd, hx, _, _, _⟩ := sort_open hyes
 have hl8 := (defOk_len (headOk_def hhd)).2.1
 have hso := Aside0.mk (fun W (h : Below w.heap.size w W) => (by
  have := sort_calls nm l A c x B cb W hnm hxk (hS.below h) hb hn hc (tabs_on hT h) (Kd.C_below hB h) hxs
  rw [hyes] at this
  exact this : Calls Tryz.prog 52 #[.agg #[.string nm, .slice A l.length c, .int .i64 x.id, .string x.key, .string x.name, .int .i64 x.version, .int .i64 x.phase, .int .i64 x.cause, .slice B x.steps.length cb, .int .i64 (x.freed 0), .int .i64 (x.freed 1), .int .i64 (x.freed 2), .int .i64 (x.freed 3)]] W fun e w' => e = .returned (.int .i64 1) ∧ Below W.heap.size W w'))
 have hud := Aside0.mk (fun W (h : Below w.heap.size w W) => named_calls nm l A c W hnm (hS.below h) hb hn hc (tabs_on hT h))
 have HR : Aside0 (wantsL nm l x = ((namedL nm l).filter fun p => x.freed p == 0).map (freeOf x)) := ⟨by
  unfold wantsL
  rw [hyes]
  rcases hp5 with h | h <;> (rw [h]; rfl)⟩
 have HU := Aside0.mk (And.intro (namedL_lt nm l) (namedL_len nm l))
 have HA := Aside0.mk hS
 obtain ⟨i37, hi37, hz37, hs37, hb37⟩ := info_parts lt_info
 have HI := Aside0.mk (And.intro hi37 (And.intro hz37 (And.intro hs37 hb37)))
 have hp : (x.phase == 5) = false := by rcases hp5 with h | h <;> (rw [h]; rfl)
 have hp46 : (x.phase == 4) = true ∨ ((x.phase == 4) = false ∧ (x.phase == 6) = true) := by rcases hp5 with h | h <;> (rw [h]; simp)
 clear hi37 hz37 hs37 hb37 hnm hxk hS hb hn hT hB hxs hyes hhd hx hp5
 generalize namedL nm l = L at *
 go_enter Tryz.func26, Tryz.ntmps26
 rcases hp46 with h4 | ⟨h4, h6⟩
 all_goals
  go_wp2_with (first | (go_at_call 52; refine (hso.out _ HV.out.dx.below).mono ?_; rintro e w1 ⟨rfl, hb1⟩; have H1 := Aside0.mk (HV.out.on hb1); clear hb1; obtain ⟨hq0, hq1, hq2, hq3, hq4⟩ := H1.out.cells) | (go_at_call 66; refine (hud.out _ H1.out.dx.below).mono ?_; rintro e w3 ⟨⟨v3, rfl, ho3⟩, hb3⟩; obtain ⟨A3, c3, rfl, _, hr3⟩ := own_reads ho3; have H3 := Aside0.mk (And.intro (H1.out.on hb3) hr3); clear ho3 hb3 hr3))
  clear H1 hq0 hq1 hq2 hq3 hq4
  have HB0 := Aside0.mk (Below.refl w3.heap.size w3)
  go_loopw [6, 81] (fun v6 v57 wr => ∃ k : Nat, k ≤ L.length ∧ v57 = .int .i64 (k : Int) ∧ OwnLt wr w3.heap.size v6 (((L.take k).filter fun p => x.freed p == 0).map (freeOf x)) ∧ Below w3.heap.size w3 wr) (fun _ v57 _ => L.length - (intOf v57).toNat)
  case atStart => exact ⟨0, Nat.zero_le _, rfl, ownLt_nil _ _, HB0.out⟩
  case round =>
   obtain ⟨k, hk, rfl, hO, hB⟩ := hrel
   have HG := Aside0.mk (And.intro hO hB)
   clear HB0 hO hB
   have hLl := HU.out.2
   by_cases hlt : k < L.length
   · have hd2 : decide ((k : Int) < (L.length : Int)) = true := decide_eq_true (by omega)
     have hki : k < (intsOf L).length := by rw [intsOf_len]; exact hlt
     obtain ⟨ad3, rfl, hcell⟩ := int_at H3.out.2 hki
     have hge : (intsOf L)[k]'hki = (L[k] : Int) := by simp [intsOf]
     rw [hge] at hcell
     replace hcell := cell_on HG.out.2 hcell
     have hN := H3.out.1.on HG.out.2
     obtain ⟨ha0, ha1, ha2, ha3, ha4⟩ := hN.cells
     have hj4 := HU.out.1 L[k] (List.getElem_mem hlt)
     have hfr := row_cell (j := 7 + L[k]) hN.dx.xbox (freed_cell x hj4)
     have HT := Aside0.mk (take_filter (f := freeOf x) (q := fun p => x.freed p == 0) hlt)
     have hmk : (((L.take k).filter fun p => x.freed p == 0).map (freeOf x)).length ≤ 8 := by
      have h1 := List.length_filter_le (fun p => x.freed p == 0) (L.take k)
      rw [List.length_take] at h1
      rw [List.length_map]
      omega
     have hlow := HG.out.2.size
     obtain ⟨inner, hown, hpush⟩ := ownLt_open HG.out.1
     have HO := Aside0.mk (And.intro hown hpush)
     have HP : Aside0 (freeOf x L[k] = ⟨3, (L[k] : Int), x.id, 0, 0, []⟩) := ⟨rfl⟩
     have hd3 : decide ((L[k] : Int) < 4) = true := decide_eq_true (by omega)
     clear hge hki hN hown hpush
     generalize ((L.take k).filter fun p => x.freed p == 0).map (freeOf x) = M at *
     generalize freeOf x L[k] = lt at *
     generalize hz : x.freed L[k] = z at *
     generalize L[k] = j at *
     cases hz0 : (z == 0)
     · go_wp2_with fail
       go_roundw
       case rel => exact ⟨k + 1, hlt, by go_num, by rw [HT.out, hz0, if_neg (by decide), List.append_nil]; exact HG.out.1, HG.out.2⟩
       case measure => simp [intOf]; omega
     · go_wp2_with (first | (at_builtin; refine wpList_append_lies _ rfl (.tmp 90) (.tmp 95) 50 rfl w3.heap.size 55 i37 _ 6 64 Tryz.underlying50 HI.out.1 HI.out.2.1 HI.out.2.2.1 HI.out.2.2.2 rfl (by decide) _ M.length inner rfl (HO.out.1.alloc _) ⟨wr.heap.size, 0, none⟩ 1 1 (ltC ⟨3, j, x.id, 0, 0, []⟩ (.slice none 0 0)) rfl rfl (World.news_of_block (heap_alloc_new wr _)) (ltC_one _ rfl) (by omega) (by unfold maxLen; omega) (by omega) (by simp; omega) (wr.heap.size + 1) (by simp) ?_; intro gg cap w5 hown1 hgrow hat hlt1; have hgr := (World.grownBy_alloc wr _ _).trans hgrow; have HB1 := Aside0.mk (HG.out.2.grown hgr hlow (fun q hq => (HO.out.1.lt q hq).1)); have HL1 := Aside0.mk (HO.out.2 _ _ _ _ _ (keysO_nil _ _) hown1 hgr (hat.imp_right fun e => by omega)); clear hown1 hgrow hgr hat hlt1))
       go_roundw
       case rel => exact ⟨k + 1, hlt, by go_num, by rw [HT.out, hz0, if_pos rfl, HP.out]; exact HL1.out, HB1.out⟩
       case measure => simp [intOf]; omega
   · have hk' : k = L.length := by omega
     subst hk'
     have hd2 : decide ((L.length : Int) < (L.length : Int)) = false := decide_eq_false (by omega)
     go_wp2
     go_ret
     refine ⟨⟨_, rfl, ?_⟩, H3.out.1.dx.below.trans (HG.out.2.mono H3.out.1.dx.below.size)⟩
     have ho := HG.out.1
     rw [List.take_length, ← HR.out] at ho
     exact ownLt_low ho H3.out.1.dx.below.size
theorem range_flat {β : Type} (f : Nat → List β) (k : Nat) : (List.range (k + 1)).flatMap f = (List.range k).flatMap f ++ f k := by
 rw [List.range_succ, List.flatMap_append]
 simp
theorem flat_len' {α β : Type} (m : Nat) (f : α → List β) (h : ∀ a, (f a).length ≤ m) : ∀ L : List α, (L.flatMap f).length ≤ m * L.length
 | [] => by simp
 | a :: L => by
  have := flat_len' m f h L
  have := h a
  rw [List.flatMap_cons, List.length_append, List.length_cons, Nat.mul_succ]
  omega
set_option maxHeartbeats 16000000 in
set_option maxRecDepth 100000 in
theorem wants_do (nm : ByteArray) (l : List Step) (A : Option Addr) (c : Nat) (x : Inst) (B : Option Addr) (cb : Nat) (w : World) (hnm : nm.size ≤ 140737488351232) (hxk : x.key.size ≤ 140737488351232) (hS : StepsAt w A l) (hb : ∀ s ∈ l, StepB s) (hn : l.length ≤ 9000000000000) (hc : l.length ≤ c) (hT : TabsAt w) (hB : Kd.C (Kd.int .i64) w B x.steps.length x.steps) (hxs : x.steps.length ≤ 17592186044416) (hyes : sortL nm l x = 1) (hp5 : x.phase ≠ 5) (hp4 : x.phase ≠ 4) (hp6 : x.phase ≠ 6) : Calls Tryz.prog 26 #[.agg #[.string nm, .slice A l.length c], .agg #[.int .i64 x.id, .string x.key, .string x.name, .int .i64 x.version, .int .i64 x.phase, .int .i64 x.cause, .slice B x.steps.length cb, .int .i64 (x.freed 0), .int .i64 (x.freed 1), .int .i64 (x.freed 2), .int .i64 (x.freed 3)]] w fun e w' => (∃ v, e = .returned v ∧ OwnLt w' w.heap.size v (wantsL nm l x)) ∧ Below w.heap.size w w' := by
 have HV := Aside0.mk (Nx.start nm l A c x B cb w)
 obtain ⟨hhd, hx, _, _, _⟩ := sort_open hyes
 have hl8 := (defOk_len (headOk_def hhd)).2.1
 have hso := Aside0.mk (fun W (h : Below w.heap.size w W) => (by
  have := sort_calls nm l A c x B cb W hnm hxk (hS.below h) hb hn hc (tabs_on hT h) (Kd.C_below hB h) hxs
  rw [hyes] at this
  exact this : Calls Tryz.prog 52 #[.agg #[.string nm, .slice A l.length c, .int .i64 x.id, .string x.key, .string x.name, .int .i64 x.version, .int .i64 x.phase, .int .i64 x.cause, .slice B x.steps.length cb, .int .i64 (x.freed 0), .int .i64 (x.freed 1), .int .i64 (x.freed 2), .int .i64 (x.freed 3)]] W fun e w' => e = .returned (.int .i64 1) ∧ Below W.heap.size W w'))
 have HR : Aside0 (wantsL nm l x = (List.range l.length).flatMap fun i => if stOf x.steps i == 1 then [doOf l x i] else []) := ⟨by
  unfold wantsL
  rw [hyes, if_neg (by decide), if_neg (by simpa using hp5), if_neg (by simp [hp4, hp6])]⟩
 have HA := Aside0.mk (And.intro hS (And.intro hB hx))
 have HBB := Aside0.mk hb
 obtain ⟨i37, hi37, hz37, hs37, hb37⟩ := info_parts lt_info
 have HI := Aside0.mk (And.intro hi37 (And.intro hz37 (And.intro hs37 hb37)))
 have hpp5 : (x.phase == 5) = false := beq_eq_false_iff_ne.2 hp5
 have hpp4 : (x.phase == 4) = false := beq_eq_false_iff_ne.2 hp4
 have hpp6 : (x.phase == 6) = false := beq_eq_false_iff_ne.2 hp6
 clear hi37 hz37 hs37 hb37 hnm hxk hS hb hn hT hB hxs hyes hhd hx hp5 hp4 hp6
 go_enter Tryz.func26, Tryz.ntmps26
 go_wp2_with (first | (go_at_call 52; refine (hso.out _ HV.out.dx.below).mono ?_; rintro e w1 ⟨rfl, hb1⟩; have H1 := Aside0.mk (HV.out.on hb1); clear hb1; obtain ⟨hq0, hq1, hq2, hq3, hq4⟩ := H1.out.cells))
 clear hq0 hq1 hq2 hq3 hq4 hso HV
 have HB0 := Aside0.mk (Below.refl w1.heap.size w1)
 go_loopw [6, 24] (fun v6 v24 wr => ∃ k : Nat, k ≤ l.length ∧ v24 = .int .i64 (k : Int) ∧ OwnLt wr w1.heap.size v6 ((List.range k).flatMap fun i => if stOf x.steps i == 1 then [doOf l x i] else []) ∧ Below w1.heap.size w1 wr) (fun _ v24 _ => l.length - (intOf v24).toNat)
 case atStart => exact ⟨0, Nat.zero_le _, rfl, ownLt_nil _ _, HB0.out⟩
 case round =>
  obtain ⟨k, hk, rfl, hO, hB⟩ := hrel
  have HG := Aside0.mk (And.intro hO hB)
  clear HB0 hO hB
  by_cases hlt : k < l.length
  · have hd2 : decide ((k : Int) < (l.length : Int)) = true := decide_eq_true (by omega)
    have hkx : k < x.steps.length := by have := HA.out.2.2; omega
    have hd3 : decide ((k : Int) < (x.steps.length : Int)) = true := decide_eq_true (by omega)
    have hN := H1.out.on HG.out.2
    obtain ⟨ha0, ha1, ha2, ha3, ha4⟩ := hN.cells
    obtain ⟨ad, rfl, A1, c1, A2, c2, h1⟩ := HA.out.1.one (stepAt_eq hlt)
    obtain ⟨ab, rfl, hy⟩ := int_at HA.out.2.1 hkx
    rw [st_get hkx] at hy
    replace hy := cell_on hN.dx.below hy
    have h2 := h1.below hN.dx.below
    have hc0 := h2.c0
    have hc1 := h2.c1_
    have hc2 := h2.c2_
    have hc3 := h2.c3
    have hc4 := h2.c4
    have HKS := Aside0.mk (And.intro h2.keys (show (stepAt l k).keys.length * 16 ≤ 140737488355328 by have := (HBB.out _ (stepAt_mem hlt)).2.2.2.1.2; omega))
    have HT := Aside0.mk (range_flat (fun i => if stOf x.steps i == 1 then [doOf l x i] else []) k)
    have hmk : ((List.range k).flatMap fun i => if stOf x.steps i == 1 then [doOf l x i] else []).length ≤ 8 := by
     have h1 := flat_len' 1 (fun i => if stOf x.steps i == 1 then [doOf l x i] else []) (fun a => by split <;> simp) (List.range k)
     rw [List.length_range] at h1
     omega
    have hlow := HG.out.2.size
    obtain ⟨inner, hown, hpush⟩ := ownLt_open HG.out.1
    have HO := Aside0.mk (And.intro hown hpush)
    have HP : Aside0 (doOf l x k = ⟨1, (stepAt l k).part, x.id, (k : Int), (stepAt l k).kind, (stepAt l k).keys⟩) := ⟨rfl⟩
    clear hN hown hpush h1 h2
    generalize (List.range k).flatMap (fun i => if stOf x.steps i == 1 then [doOf l x i] else []) = M at *
    generalize doOf l x k = lt at *
    generalize stepAt l k = st at *
    generalize stOf x.steps k = y at *
    go_upto_region 9 with fail
    have hb5 := below_one wr (.cells #[.string st.name, .int .i64 st.kind, .int .i64 st.part, .slice A1 st.keys.length c1, .slice A2 st.needs.length c2] 70)
    have hr5 := alloc1 wr (.cells #[.string st.name, .int .i64 st.kind, .int .i64 st.part, .slice A1 st.keys.length c1, .slice A2 st.needs.length c2] 70)
    have hgz := HG.out.1
    generalize hg5 : wr.heap.size = g5 at *
    generalize World.alloc wr _ = w5 at *
    subst hg5
    have HG5 := Aside0.mk (And.intro (H1.out.on (on_ HG.out.2 hb5)) (And.intro (on_ HG.out.2 hb5) hb5))
    have hx0 := row_cell (j := 1) hr5 rfl
    have hx1 := row_cell (j := 2) hr5 rfl
    have hx2 := row_cell (j := 3) hr5 rfl
    have hq2 := HG5.out.1.cells.2.2.1
    have hq4 := HG5.out.1.cells.2.2.2.2
    replace hy := cell_on hb5 hy
    replace hr5 := Aside0.mk hr5
    clear ha0 ha1 ha2 ha3 ha4 hc0 hc1 hc2 hc3 hc4 hb5 hgz
    cases hy1 : (y == 1)
    · go_wp2_with fail
      go_roundw
      case rel => exact ⟨k + 1, hlt, by go_num, by rw [HT.out, hy1, if_neg (by decide), List.append_nil]; exact ownLt_on HG.out.1 HG5.out.2.2, HG5.out.2.1⟩
      case measure => simp [intOf]; omega
    · go_upto_region 10 with fail
      go_region_held3 (fun w' => w'.cell? ⟨wr.heap.size, 2, none⟩ = some (.int .i64 st.part) ∧ w'.cell? ⟨w.heap.size + 1, 0, none⟩ = some (.int .i64 x.id) ∧ w'.cell? ⟨wr.heap.size, 1, none⟩ = some (.int .i64 st.kind) ∧ w'.cell? ⟨wr.heap.size, 3, none⟩ = some (.slice A1 st.keys.length c1)) (first | go_keep | exact K7.out | exact K6.out) (first | (go_at_call 67; refine (cloneS_calls _ A1 c1 st.keys (Kd.C_below HKS.out.1 (by first | exact HG5.out.2.2 | exact below_drew HG5.out.2.2)) HKS.out.2).mono ?_; rintro e w6 ⟨v6, rfl, hk6, hb6⟩; obtain ⟨A6, c6, rfl⟩ := Kd.R_slice hk6; have hr6 := row_on hb6 hr5.out; have hw6 := on_ (below_drew HG5.out.2.2) hb6; have HW6 := Aside0.mk (And.intro hw6 (And.intro hk6 hr6)); have K6 := Aside0.mk (And.intro (row_cell (j := 2) hr6 rfl) (And.intro (H1.out.on (on_ HG.out.2 hw6)).cells.2.2.1 (And.intro (row_cell (j := 1) hr6 rfl) (row_cell (j := 3) hr6 rfl)))); have hs6 := hw6.size; obtain ⟨inner6, hown6, hpush6⟩ := ownLt_open (ownLt_on HG.out.1 hw6); have HO6 := Aside0.mk (And.intro hown6 hpush6); clear hr6 hw6 hk6 hb6 hown6 hpush6) | (refine step_append_lies _ (by rfl) _ _ _ (by rfl) w1.heap.size 55 i37 _ 6 64 Tryz.underlying50 HI.out.1 HI.out.2.1 HI.out.2.2.1 HI.out.2.2.2 rfl (by decide) _ M.length inner6 (by rfl) (HO6.out.1.alloc _) ⟨w6.heap.size, 0, none⟩ 1 1 (ltC ⟨1, st.part, x.id, k, st.kind, st.keys⟩ (.slice A6 st.keys.length c6)) (by rfl) (by rfl) (World.news_of_block (heap_alloc_new w6 _)) (ltC_one _ (keys_one HW6.out.2.1)) (by omega) (by unfold maxLen; omega) (by omega) (by simp; omega) (w6.heap.size + 1) (by simp) ?_; intro gg cap w7 hown1 hgrow hat hlt1; have hgr := (World.grownBy_alloc w6 _ _).trans hgrow; have hr7 := (hgr.block _ (Array.getElem?_eq_some_iff.1 HW6.out.2.2).1 (fun e => by have := (HO.out.1.lt _ e.symm).2; omega)).trans HW6.out.2.2; have HB1 := Aside0.mk ((on_ HG.out.2 HW6.out.1).grown hgr (by omega) (fun q hq => (HO.out.1.lt q hq).1)); have K7 := Aside0.mk (And.intro (row_cell (j := 2) hr7 rfl) (And.intro (H1.out.on HB1.out).cells.2.2.1 (And.intro (row_cell (j := 1) hr7 rfl) (row_cell (j := 3) hr7 rfl)))); have HL1 := Aside0.mk (HO6.out.2 ⟨1, st.part, x.id, k, st.kind, st.keys⟩ (.slice A6 st.keys.length c6) _ _ _ (keysO_low (lo := w5.heap.size) HW6.out.2.1 (by have := HG5.out.2.2.size; omega)) hown1 hgr (hat.imp_right fun e => by omega)); clear hown1 hgrow hgr hat hlt1 hr7))
      go_wp2_with fail
      go_roundw
      case rel => exact ⟨k + 1, hlt, by go_num, by rw [HT.out, hy1, if_pos rfl, HP.out]; exact HL1.out, HB1.out⟩
      case measure => simp [intOf]; omega
  · have hk' : k = l.length := by omega
    subst hk'
    have hd2 : decide ((l.length : Int) < (l.length : Int)) = false := decide_eq_false (by omega)
    go_wp2
    go_ret
    refine ⟨⟨_, rfl, ?_⟩, H1.out.dx.below.trans (HG.out.2.mono H1.out.dx.below.size)⟩
    have ho := HG.out.1
    rw [← HR.out] at ho
    exact ownLt_low ho H1.out.dx.below.size
theorem wants_calls (nm : ByteArray) (l : List Step) (A : Option Addr) (c : Nat) (x : Inst) (B : Option Addr) (cb : Nat) (w : World) (hnm : nm.size ≤ 140737488351232) (hxk : x.key.size ≤ 140737488351232) (hS : StepsAt w A l) (hb : ∀ s ∈ l, StepB s) (hn : l.length ≤ 9000000000000) (hc : l.length ≤ c) (hT : TabsAt w) (hB : Kd.C (Kd.int .i64) w B x.steps.length x.steps) (hxs : x.steps.length ≤ 17592186044416) : Calls Tryz.prog 26 #[.agg #[.string nm, .slice A l.length c], .agg #[.int .i64 x.id, .string x.key, .string x.name, .int .i64 x.version, .int .i64 x.phase, .int .i64 x.cause, .slice B x.steps.length cb, .int .i64 (x.freed 0), .int .i64 (x.freed 1), .int .i64 (x.freed 2), .int .i64 (x.freed 3)]] w fun e w' => (∃ v, e = .returned v ∧ OwnLt w' w.heap.size v (wantsL nm l x)) ∧ Below w.heap.size w w' := by
 by_cases h : sortL nm l x = 1
 · by_cases h5 : x.phase = 5
   · exact wants_back nm l A c x B cb w hnm hxk hS hb hn hc hT hB hxs h h5
   · by_cases h4 : x.phase = 4
     · exact wants_over nm l A c x B cb w hnm hxk hS hb hn hc hT hB hxs h (.inl h4)
     · by_cases h6 : x.phase = 6
       · exact wants_over nm l A c x B cb w hnm hxk hS hb hn hc hT hB hxs h (.inr h6)
       · exact wants_do nm l A c x B cb w hnm hxk hS hb hn hc hT hB hxs h h5 h4 h6
 · exact wants_no nm l A c x B cb w hnm hxk hS hb hn hc hT hB hxs h
end Go.Proofs.YtgjddnaidjbhlaaGreatDoor.Ph

/- The plain words of chapter 3 (numbers, texts and lists as bytes): lists of bytes and whole numbers alone; no program. -/
namespace Go.Proofs.YtgjddnaidjbhlaaGreatDoor.Pk
open Go.RowKit Go.Proofs.YtgjddnaidjbhlaaGreatDoorW.PrintWords Go.Proofs.YtgjddnaidjbhlaaGreatDoorW.PrintMore

/-- The form of a number: groups of seven bits, the lowest first. -/
def enc (n : Nat) : List UInt8 := if n < 128 then [UInt8.ofNat n] else UInt8.ofNat (128 + n % 128) :: enc (n / 128)
termination_by n
decreasing_by omega

theorem enc_small {n : Nat} (h : n < 128) : enc n = [UInt8.ofNat n] := by rw [enc, if_pos h]
theorem enc_big {n : Nat} (h : ¬ n < 128) : enc n = UInt8.ofNat (128 + n % 128) :: enc (n / 128) := by rw [enc, if_neg h]
theorem enc_len (d : Nat) : ∀ n : Nat, n < 128 ^ (d + 1) → (enc n).length ≤ d + 1 := by
 induction d with
 | zero => intro n h; rw [enc_small (by simpa using h)]; simp
 | succ d ih =>
  intro n h
  by_cases hs : n < 128
  · rw [enc_small hs]; simp
  · rw [enc_big hs, List.length_cons]
    have := ih (n / 128) (by rw [Nat.div_lt_iff_lt_mul (by decide)]; rw [Nat.pow_succ] at h; exact h)
    omega
theorem enc_len8 {n : Nat} (h : n ≤ 1125899906842624) : (enc n).length ≤ 8 := enc_len 7 n (by omega)

/-- What Num answers. -/
def num (a : Int) : ByteArray × Int := if a < 0 ∨ a > 1125899906842624 then (⟨#[]⟩, 30) else (⟨(enc a.toNat).toArray⟩, 0)

theorem num_bad {a : Int} (h : a < 0 ∨ a > 1125899906842624) : num a = (⟨#[]⟩, 30) := by rw [num, if_pos h]
theorem num_ok {a : Int} (h0 : 0 ≤ a) (h1 : a ≤ 1125899906842624) : num a = (⟨(enc a.toNat).toArray⟩, 0) := by rw [num, if_neg (by omega)]

theorem strOfNums_eq (l : List Int) : strOfNums l = ⟨(l.map fun n => UInt8.ofNat n.toNat).toArray⟩ := rfl

theorem or128 (m : Nat) (h : m < 256) : m ||| 128 = 128 + m % 128 := by
 have : ∀ m : Fin 256, (m : Nat) ||| 128 = 128 + (m : Nat) % 128 := by decide +kernel
 exact this ⟨m, h⟩

/-- A loop that writes the groups, as the program has it. -/
theorem pack_loop (l0 : Nat → Int → List Int → Option (ByteArray × Int))
 (h : ∀ k x0 x4, l0 (k + 1) x0 x4 = if x0 > 127 then (if x4.length < 140737488355328 then (l0 k (x0 / 128) (x4 ++ [Go.bits .or .u8 ((x0) % 256) 128])) else (none)) else (if x4.length < 140737488355328 then (some (strOfNums (x4 ++ [(x0) % 256]), 0)) else (none))) :
 ∀ (d : Nat) (n : Nat) (acc : List Int) (k : Nat), n < 128 ^ (d + 1) → d < k → acc.length + d < 1000 → l0 k (n : Int) acc = some (⟨((acc.map fun n => UInt8.ofNat n.toNat) ++ enc n).toArray⟩, 0) := by
 intro d
 induction d with
 | zero =>
  intro n acc k hn hk ha
  obtain ⟨k, rfl⟩ : ∃ m, k = m + 1 := ⟨k - 1, by omega⟩
  have hn' : n < 128 := by simpa using hn
  rw [h, if_neg (by omega), if_pos (by omega), strOfNums_eq, enc_small hn']
  have e : ((n : Int) % 256).toNat = n := by omega
  simp [e]
 | succ d ih =>
  intro n acc k hn hk ha
  obtain ⟨k, rfl⟩ : ∃ m, k = m + 1 := ⟨k - 1, by omega⟩
  by_cases hs : n < 128
  · rw [h, if_neg (by omega), if_pos (by omega), strOfNums_eq, enc_small hs]
    have e : ((n : Int) % 256).toNat = n := by omega
    simp [e]
  · have hb : Go.bits .or .u8 ((n : Int) % 256) 128 = 128 + (n : Int) % 128 := by
     have e1 := bits_nat .u8 8 (by decide) wraps_u8 (n % 256) 128 (by omega) (by decide)
     have e2 : ((n % 256 : Nat) : Int) = (n : Int) % 256 := by omega
     rw [← e2, show (128 : Int) = ((128 : Nat) : Int) from rfl, e1.2]
     rw [or128 _ (by omega)]
     omega
    have hd : (n : Int) / 128 = ((n / 128 : Nat) : Int) := by omega
    rw [h, if_pos (by omega), if_pos (by omega), hb, hd, ih (n / 128) _ k (by rw [Nat.div_lt_iff_lt_mul (by decide)]; rw [Nat.pow_succ] at hn; exact hn) (by omega) (by simp; omega), enc_big hs]
    have e : (128 + (n : Int) % 128).toNat = 128 + n % 128 := by omega
    simp [e]

end Go.Proofs.YtgjddnaidjbhlaaGreatDoor.Pk

/- pack.join: the bytes of all pieces, one behind the other; through strings.Join's contract. -/
namespace Go.Proofs.YtgjddnaidjbhlaaGreatDoor.Joins
open Go.RowKit Go.Proofs.YtgjddnaidjbhlaaGreatDoorW.PrintWords Go.Proofs.YtgjddnaidjbhlaaGreatDoorW.PrintMore

/-- The bytes of all pieces. -/
def cat (l : List ByteArray) : List UInt8 := (l.map (·.data.toList)).flatten
theorem join_cat (l : List ByteArray) : Lib.join (l.map (·.data.toList)) [] = cat l := by
 cases l with
 | nil => rfl
 | cons x r =>
  rw [List.map_cons, Lib.join_cons]
  simp [cat, Lib.joinTail]
  rfl
def pack_join.f (l0 : List ByteArray) : Option (ByteArray) := if (cat l0).length ≤ 140737488355328 ∧ l0.length ≤ 140737488355328 then some ⟨(cat l0).toArray⟩ else none

theorem spot_none {w : World} {a : Addr} {v : Value} (h : w.cell? a = some v) : a = ⟨a.block, a.off, none⟩ := by
 unfold World.cell? at h
 split at h
 · split at h
   · cases h
   · rename_i hs
     cases a with
     | mk b o s => cases s with
      | none => rfl
      | some x => simp at hs
 · cases h

theorem strings_join (A0 : Option Addr) (c0 : Nat) (l0 : List ByteArray) (w : World) (hr0 : Kd.C Kd.string w A0 l0.length l0) (hc0 : l0.length ≤ c0) (hl : (cat l0).length ≤ 140737488355328) (hn : l0.length ≤ 140737488355328) :
 Calls Tryz.prog 234 #[.slice A0 l0.length c0, .string ⟨#[]⟩] w fun e w' => e = .returned (.string ⟨(cat l0).toArray⟩) ∧ Below w.heap.size w w' := by
 cases hl0 : l0 with
 | nil =>
  refine (Tryz.strings_Join_none A0 c0 ⟨#[]⟩ w).mono fun e w' ⟨he, hw⟩ => ⟨he, hw ▸ Below.refl _ _⟩
 | cons x r =>
  rw [← hl0]
  obtain ⟨ad, rfl, hcell⟩ := hr0.2.2 (by rw [hl0]; simp)
  have each : ∀ (j : Nat) y, l0[j]? = some y → w.cell? (ad.add j) = some (.string y) := by
   intro j y hy
   obtain ⟨c, hcl, hk, hcc⟩ := hcell j y hy
   have hk' : c = [.string y] := hk
   have := hcc 0 (.string y) (by rw [hk']; rfl)
   rw [show j * Kd.string.sz + 0 = j from Nat.mul_one j] at this
   exact this
  have h0 := each 0 x (by rw [hl0]; rfl)
  rw [show ad.add 0 = ad from by simp [Addr.add]] at h0
  have hsp := spot_none h0
  have hlt : ad.block < w.heap.size := World.block_lt_of_cell? w _ h0
  have := Tryz.strings_Join ad.block ad.off c0 l0 ⟨#[]⟩ w (fun j y hy => by
   have h1 := each j y hy
   rw [hsp] at h1
   by_cases hj : j = 0
   · subst hj; simpa [Addr.add] using h1
   · simpa [Addr.add, hj] using h1) hlt hn hc0 (by rw [show (⟨#[]⟩ : ByteArray).data.toList = [] from rfl, join_cat]; exact hl)
  rw [show (⟨#[]⟩ : ByteArray).data.toList = [] from rfl, join_cat, ← hsp] at this
  exact this

set_option maxHeartbeats 400000 in
theorem pack_join.calls (A0 : Option Addr) (c0 : Nat) (l0 : List ByteArray) (r : ByteArray) (w : World) (hr0 : Kd.C Kd.string w A0 l0.length l0) (hc0 : l0.length ≤ c0) (h : pack_join.f l0 = some r) :
 Calls Tryz.prog 233 #[.slice A0 l0.length c0] w fun e w' => e = .returned (.string r) ∧ Below w.heap.size w w' := by
 unfold pack_join.f at h
 by_cases hl : (cat l0).length ≤ 140737488355328 ∧ l0.length ≤ 140737488355328
 · rw [if_pos hl] at h
   obtain rfl := Option.some.inj h
   have HJ := fun W => strings_join A0 c0 l0 W
   have HC := Aside0.mk hr0
   have HN := Aside0.mk hc0
   have HL := Aside0.mk hl
   clear hr0 hc0 h hl
   go_enter Tryz.func233, Tryz.ntmps233
   go_wp2_with (go_at_call 234; refine (HJ _ HC.out HN.out HL.out.1 HL.out.2).mono ?_; rintro e w' ⟨rfl, hb⟩)
   go_ret
   exact ⟨rfl, hb⟩
 · rw [if_neg hl] at h; cases h
end Go.Proofs.YtgjddnaidjbhlaaGreatDoor.Joins

/- The plain words of chapter 3, writing: what Text and List answer. -/
namespace Go.Proofs.YtgjddnaidjbhlaaGreatDoor.Pk
open Go.RowKit Go.IntWalk Go.Proofs.YtgjddnaidjbhlaaGreatDoorW.PrintWords Go.Proofs.YtgjddnaidjbhlaaGreatDoorW.PrintMore

/-- The form of a text. -/
def item (s : ByteArray) : List UInt8 := enc s.size ++ s.data.toList
def text (s : ByteArray) : ByteArray × Int := if s.size > 2000 then (⟨#[]⟩, 2) else (⟨(enc s.size ++ s.data.toList).toArray⟩, 0)
theorem text_ok {s : ByteArray} (h : ¬ s.size > 2000) : text s = (⟨(item s).toArray⟩, 0) := by rw [text, if_neg h]; rfl
theorem item_len {s : ByteArray} (h : s.size ≤ 2000) : (item s).length ≤ 2008 := by
 have hl := enc_len8 (n := s.size) (by omega)
 have hs : s.data.toList.length = s.size := by simp
 rw [item, List.length_append, hs]
 omega
theorem two_len {s : ByteArray} (hl : (enc s.size).length ≤ 8) (h : ¬ s.size > 2000) : ((⟨(enc s.size).toArray⟩ : ByteArray).data.toList ++ s.data.toList).length ≤ 140737488355328 := by
 have hs : s.data.toList.length = s.size := by simp
 rw [List.length_append, hs]
 show (enc s.size).toArray.toList.length + _ ≤ _
 rw [List.toList_toArray]
 omega
theorem cat_two (a s : ByteArray) : Joins.cat [a, s] = a.data.toList ++ s.data.toList := by simp [Joins.cat]
end Go.Proofs.YtgjddnaidjbhlaaGreatDoor.Pk

-- Written by gprint.py, a program of this session, over the kit's print of the loaded functions. Not trusted: Lean checks it.
namespace Go.Proofs.YtgjddnaidjbhlaaGreatDoor.G
open Go.RowKit Go.Proofs.YtgjddnaidjbhlaaGreatDoorW.PrintWords Go.Proofs.YtgjddnaidjbhlaaGreatDoorW.PrintLast Go.Proofs.YtgjddnaidjbhlaaGreatDoorW.PrintMore Go.Proofs.YtgjddnaidjbhlaaGreatDoor.Joins
attribute [local go_sem] max2_int min2_int max_two min_two max_three min_three max_four min_four   -- for this text's walks alone
set_option linter.unusedVariables false
set_option linter.unusedSimpArgs false

def errW : Option Int → Value
 | none => .nilIface
 | some c => .iface 0 (.int .i64 c)
theorem errW_none : errW none = .nilIface := rfl
theorem errW_some (c : Int) : errW (some c) = .iface 0 (.int .i64 c) := rfl

theorem info5 : (Tryz.prog.info? 5).map (fun i => (i.zero, i.size, i.bytes)) = some (some (.int .u8 0), 1, 1) := by kernel_rfl
-- the values' own types

end Go.Proofs.YtgjddnaidjbhlaaGreatDoor.G

-- Written by gprint.py, a program of this session, over the kit's print of the loaded functions. Not trusted: Lean checks it.
namespace Go.Proofs.YtgjddnaidjbhlaaGreatDoor.G
open Go.RowKit Go.Proofs.YtgjddnaidjbhlaaGreatDoorW.PrintWords Go.Proofs.YtgjddnaidjbhlaaGreatDoorW.PrintLast Go.Proofs.YtgjddnaidjbhlaaGreatDoorW.PrintMore Go.Proofs.YtgjddnaidjbhlaaGreatDoor.Joins
attribute [local go_sem] max2_int min2_int max_two min_two max_three min_three max_four min_four   -- for this text's walks alone
set_option linter.unusedVariables false
set_option linter.unusedSimpArgs false

/-! ### pack_Num: function 226 -/
mutual
def pack_Num.j0 : Nat → Int → Bool → Option (ByteArray × Int)
 | 0, _, _ => none
 | k + 1, x0, x10 => if x10 = true then (some ((⟨#[]⟩ : ByteArray), 30)) else (pack_Num.l0 k x0 ([] : List Int))
def pack_Num.l0 : Nat → Int → List Int → Option (ByteArray × Int)
 | 0, _, _ => none
 | k + 1, x0, x4 => if x0 > 127 then (if x4.length < 140737488355328 then (pack_Num.l0 k (x0 / 128) (x4 ++ [Go.bits .or .u8 ((x0) % 256) 128])) else (none)) else (if x4.length < 140737488355328 then (some (strOfNums (x4 ++ [(x0) % 256]), 0)) else (none))
end
def pack_Num.f (k : Nat) (a0 : Int) : Option (ByteArray × Int) := if a0 < 0 then (pack_Num.j0 k a0 true) else (pack_Num.j0 k a0 (decide (a0 > 1125899906842624)))
set_option maxHeartbeats 8000000 in
set_option maxRecDepth 100000 in
theorem pack_Num.calls (k : Nat) (a0 : Int) (r1 : ByteArray) (r2 : Int) (w : World) (h : pack_Num.f k a0 = some (r1, r2)) :
 Calls Tryz.prog 226 #[.int .i64 a0] w fun e w' => e = .returned (.tuple #[.string r1, .int .i64 r2]) ∧ Below w.heap.size w w' := by
 have HB := Aside0.mk (Below.refl w.heap.size w)
 have H : (if a0 < 0 then (pack_Num.j0 k a0 true) else (pack_Num.j0 k a0 (decide (a0 > 1125899906842624)))) = some (r1, r2) := h
 clear h
 have HC2 := Aside0.mk H
 clear H
 go_enter Tryz.func226, Tryz.ntmps226
 go_upto_region 1 with (fail)
 go_cut [10] (fun v10 wc => ∃ (kq : Nat) (x10_1 : Bool), v10 = .bool x10_1 ∧ Aside0 (pack_Num.j0 kq a0 x10_1 = some (r1, r2)) ∧ Aside0 (kq ≤ k) ∧ Aside0 (Below w.heap.size w wc))
 case first =>
  have H := HC2.out
  clear HC2
  by_cases c3 : a0 < 0
  · rw [if_pos c3] at H
    have c3b0 : decide (a0 < 0) = true := decide_eq_true c3
    clear c3
    (first | rw [c3b0] | (simp only [i64_w, i32_w]; rw [c3b0]) | skip)
    have H' := Aside0.mk H
    clear H
    go_wp2
    go_meet
    case rel => exact ⟨_, (true), (by first | rfl | (simp; done) | (simp [*]; done)), H', ⟨by first | omega | exact Nat.le_refl _⟩, ⟨by repeat (first | (with_reducible first | exact HB.out | apply below_alloc | apply pw_below_drewN | apply below_drew1) | exact HB.out)⟩⟩
  · rw [if_neg c3] at H
    have c3b0 : decide (a0 < 0) = false := decide_eq_false c3
    clear c3
    (first | rw [c3b0] | (simp only [i64_w, i32_w]; rw [c3b0]) | skip)
    have H' := Aside0.mk H
    clear H
    go_wp2
    go_meet
    case rel => exact ⟨_, (decide (a0 > 1125899906842624)), (by first | rfl | (simp; done) | (simp [*]; done)), H', ⟨by first | omega | exact Nat.le_refl _⟩, ⟨by repeat (first | (with_reducible first | exact HB.out | apply below_alloc | apply pw_below_drewN | apply below_drew1) | exact HB.out)⟩⟩
 case rest =>
  clear HC2
  try clear c2
  try clear p2
  try clear c3
  try clear c3b0
  obtain ⟨kq, x10_1, rfl, HA, HJ1, HB⟩ := hcut
  cases kq with
  | zero => exact absurd HA.out (by simp [pack_Num.j0])
  | succ kj1 =>
   have H := HA.out
   clear HA
   simp only [pack_Num.j0] at H
   by_cases c4 : x10_1 = true
   · subst c4
     have H1 : (some ((⟨#[]⟩ : ByteArray), 30)) = some (r1, r2) := by rw [if_pos rfl] at H; exact H
     clear H
     have H := H1
     clear H1
     simp only [Option.some.injEq, Prod.mk.injEq] at H
     obtain ⟨rfl, rfl⟩ := H
     go_wp2
     go_ret2
     exact ⟨by first | rfl | (simp [errW_none, errW_some] <;> rfl) | (simp [*, errW_none, errW_some] <;> rfl), by repeat (first | (with_reducible first | exact HB.out | apply below_alloc | apply pw_below_drewN | apply below_drew1) | exact HB.out)⟩
   · replace c4 := Bool.eq_false_iff.mpr c4
     subst c4
     have H1 : (pack_Num.l0 kj1 a0 ([] : List Int)) = some (r1, r2) := by rw [if_neg (show ¬ (false = true) by decide)] at H; exact H
     clear H
     have H := H1
     clear H1
     have H' := Aside0.mk H
     clear H
     go_wp2
     go_loopg [0, 4] kj1 (fun kq v0 v4 w' => ∃ (x0_2 : Int) (x4_2 : List Int), v0 = .int .i64 x0_2 ∧ Aside0 (pack_Num.l0 kq x0_2 x4_2 = some (r1, r2)) ∧ Aside0 (kq ≤ kj1) ∧ Aside0 (Kd.R (Kd.int .u8) 5 w' w.heap.size (fun _ => True) v4 x4_2) ∧ Aside0 (Below w.heap.size w w'))
     case atStart => exact ⟨(a0), (([] : List Int)), (by first | rfl | (simp; done) | (simp [*]; done)), H', ⟨Nat.le_refl _⟩, ⟨by first | exact Kd.R_nil _ _ _ _ _ | exact Kd.N_nil _ _ _ _ _ | exact Kd.V_nil _ _ _ _ _ | exact Kd.Q_nil _ _ _ _ _ | exact Kd.S_nil _ _ _ _ _⟩, ⟨by repeat (first | (with_reducible first | exact HB.out | apply below_alloc | apply pw_below_drewN | apply below_drew1) | exact HB.out)⟩⟩
     case round =>
      clear H'
      try clear c2
      try clear p2
      try clear c3
      try clear c3b0
      try clear c4
      try clear p2
      obtain ⟨x0_2, x4_2, rfl, HA, HK2, HO_4, HB⟩ := hrel
      cases gk with
      | zero => exact absurd HA.out (by simp [pack_Num.l0])
      | succ k2 =>
       have H := HA.out
       clear HA
       simp only [pack_Num.l0] at H
       by_cases c5 : x0_2 > 127
       · rw [if_pos c5] at H
         have c5b0 : decide (127 < x0_2) = true := decide_eq_true c5
         clear c5
         by_cases c6 : x4_2.length < 140737488355328
         · rw [if_pos c6] at H
           have LMc6 := Aside0.mk c6
           clear c6
           obtain ⟨y101, hy101⟩ : ∃ y_ : List Int, y_ = (x4_2 ++ [Go.bits .or .u8 ((x0_2) % 256) 128]) := ⟨_, rfl⟩
           replace H : (pack_Num.l0 k2 (x0_2 / 128) y101) = some (r1, r2) := by first | (rw [hy101]; with_reducible exact H) | (have H2_ := (Option.bind_some _ _).symm.trans H; rw [hy101]; with_reducible exact H2_) | (have H2_ := (Option.bind_some _ _).symm.trans H; with_reducible exact H2_) | with_reducible exact H | (rw [hy101]; exact H) | exact H
           have Ny101 := Aside0.mk hy101
           clear hy101
           have H' := Aside0.mk H
           clear H
           go_wp2_with (first | ((with_reducible refine gate_builtin (b := .append) (xs := #[.tmp 15, .tmp 19]) rfl ?_); at_builtin; refine Kd.R_append (Kd.int .u8) (w0 := w) w.heap.size rfl (.tmp 15) (.tmp 19) 223 5 (.int .u8 0) 1 rfl Tryz.underlying223 info5 rfl (by decide) (by omega) u4 x4_2 (Go.bits .or .u8 ((x0_2) % 256) 128) [.int .u8 (Go.bits .or .u8 ((x0_2) % 256) 128)] (fun _ => True) (fun _ => False) rfl rfl ?aP (fun _ hk => hk.elim) ?aF ?aO ?aB ?aS ?aL ?_; (case aP => exact rfl); (case aB => exact (by repeat (first | (with_reducible first | exact HB.out | apply below_alloc | apply pw_below_drewN | apply below_drew1) | exact HB.out))); (case aF => exact (fun _ _ => trivial)); (case aO => exact (by (with_reducible repeat (first | apply Kd.R_alloc | apply Kd.R_drewN | apply Kd.R_drew)); exact HO_4.out)); (case aS => exact (below_size (by repeat (first | (with_reducible first | exact HB.out | apply below_alloc | apply pw_below_drewN | apply below_drew1) | exact HB.out)))); (case aL => have := LMc6.out; omega); intro v102 w7 ho hb hg hat; rw [← Ny101.out] at ho; have n0_ := Aside0.mk (hb); have n1_ := Aside0.mk (ho); clear HB; clear HO_4; have HB := n0_; have HO103 := n1_; clear n0_ n1_; clear ho hb hg hat))
           go_roundg k2
           case measure => have := HJ1.out; have := HK2.out; omega
           case rel => exact ⟨(x0_2 / 128), (y101), (by first | rfl | (simp; done) | (simp [*]; done)), H', ⟨by have := HJ1.out; have := HK2.out; omega⟩, ⟨by (with_reducible repeat (first | apply Kd.R_alloc | apply Kd.R_drewN | apply Kd.R_drew)); exact HO103.out⟩, ⟨by repeat (first | (with_reducible first | exact HB.out | apply below_alloc | apply pw_below_drewN | apply below_drew1) | exact HB.out)⟩⟩
         · rw [if_neg c6] at H
           exact absurd H (by simp)
       · rw [if_neg c5] at H
         have c5b0 : decide (127 < x0_2) = false := decide_eq_false c5
         clear c5
         by_cases c8 : x4_2.length < 140737488355328
         · rw [if_pos c8] at H
           have LMc8 := Aside0.mk c8
           clear c8
           obtain ⟨y104, hy104⟩ : ∃ y_ : List Int, y_ = (x4_2 ++ [(x0_2) % 256]) := ⟨_, rfl⟩
           replace H : (some (strOfNums y104, 0)) = some (r1, r2) := by first | (rw [hy104]; with_reducible exact H) | (have H2_ := (Option.bind_some _ _).symm.trans H; rw [hy104]; with_reducible exact H2_) | (have H2_ := (Option.bind_some _ _).symm.trans H; with_reducible exact H2_) | with_reducible exact H | (rw [hy104]; exact H) | exact H
           have Ny104 := Aside0.mk hy104
           clear hy104
           simp only [Option.some.injEq, Prod.mk.injEq] at H
           obtain ⟨rfl, rfl⟩ := H
           go_wp2_with (first | ((with_reducible refine gate_builtin (b := .append) (xs := #[.tmp 21, .tmp 24]) rfl ?_); at_builtin; refine Kd.R_append (Kd.int .u8) (w0 := w) w.heap.size rfl (.tmp 21) (.tmp 24) 223 5 (.int .u8 0) 1 rfl Tryz.underlying223 info5 rfl (by decide) (by omega) u4 x4_2 ((x0_2) % 256) [.int .u8 ((x0_2) % 256)] (fun _ => True) (fun _ => False) rfl rfl ?aP (fun _ hk => hk.elim) ?aF ?aO ?aB ?aS ?aL ?_; (case aP => exact rfl); (case aB => exact (by repeat (first | (with_reducible first | exact HB.out | apply below_alloc | apply pw_below_drewN | apply below_drew1) | exact HB.out))); (case aF => exact (fun _ _ => trivial)); (case aO => exact (by (with_reducible repeat (first | apply Kd.R_alloc | apply Kd.R_drewN | apply Kd.R_drew)); exact HO_4.out)); (case aS => exact (below_size (by repeat (first | (with_reducible first | exact HB.out | apply below_alloc | apply pw_below_drewN | apply below_drew1) | exact HB.out)))); (case aL => have := LMc8.out; omega); intro v105 w9 ho hb hg hat; rw [← Ny104.out] at ho; have n0_ := Aside0.mk (hb); have n1_ := Aside0.mk (ho); clear HB; clear HO_4; have HB := n0_; have HO106 := n1_; clear n0_ n1_; clear ho hb hg hat; have hcv10 := own_string (P := Tryz.prog) Tryz.underlying223 Tryz.underlying5 Tryz.underlying9 (Kd.own_of_R HO106.out)))
           go_ret2
           exact ⟨by first | rfl | (simp [errW_none, errW_some] <;> rfl) | (simp [*, errW_none, errW_some] <;> rfl), by repeat (first | (with_reducible first | exact HB.out | apply below_alloc | apply pw_below_drewN | apply below_drew1) | exact HB.out)⟩
         · rw [if_neg c8] at H
           exact absurd H (by simp)

/-! ### pack_TakeNum: function 228 -/
/-! ### pack_Text: function 229 -/
def pack_Text.f (k : Nat) (a0 : ByteArray) : Option (ByteArray × Int) := if (a0.size : Int) > 2000 then (some ((⟨#[]⟩ : ByteArray), 2)) else ((pack_Num.f k (a0.size : Int)).bind fun bt107 => ((pack_join.f (([bt107.1, a0] : List ByteArray))).bind fun t112 => (some (t112, bt107.2))))
set_option maxHeartbeats 8000000 in
set_option maxRecDepth 100000 in
theorem pack_Text.calls (k : Nat) (a0 : ByteArray) (r1 : ByteArray) (r2 : Int) (w : World) (h : pack_Text.f k a0 = some (r1, r2)) :
 Calls Tryz.prog 229 #[.string a0] w fun e w' => e = .returned (.tuple #[.string r1, .int .i64 r2]) ∧ Below w.heap.size w w' := by
 have HB := Aside0.mk (Below.refl w.heap.size w)
 have H : (if (a0.size : Int) > 2000 then (some ((⟨#[]⟩ : ByteArray), 2)) else ((pack_Num.f k (a0.size : Int)).bind fun bt107 => ((pack_join.f (([bt107.1, a0] : List ByteArray))).bind fun t112 => (some (t112, bt107.2))))) = some (r1, r2) := h
 clear h
 by_cases c2 : (a0.size : Int) > 2000
 · rw [if_pos c2] at H
   have c2b0 : decide (2000 < (a0.size : Int)) = true := decide_eq_true c2
   have c2b1 : decide (2000 < a0.size) = true := decide_eq_true (by omega)
   clear c2
   simp only [Option.some.injEq, Prod.mk.injEq] at H
   obtain ⟨rfl, rfl⟩ := H
   go_enter Tryz.func229, Tryz.ntmps229
   go_wp2
   go_ret2
   exact ⟨by first | rfl | (simp [errW_none, errW_some] <;> rfl) | (simp [*, errW_none, errW_some] <;> rfl), by repeat (first | (with_reducible first | exact HB.out | apply below_alloc | apply pw_below_drewN | apply below_drew1) | exact HB.out)⟩
 · rw [if_neg c2] at H
   have c2b0 : decide (2000 < (a0.size : Int)) = false := decide_eq_false c2
   have c2b1 : decide (2000 < a0.size) = false := decide_eq_false (by omega)
   clear c2
   replace H := Option.bind_eq_some_iff.mp H
   obtain ⟨⟨t107, t108⟩, A30, H⟩ := H
   replace H : ((pack_join.f (([t107, a0] : List ByteArray))).bind fun t112 => (some (t112, t108))) = some (r1, r2) := H
   have A3 := Aside0.mk A30
   clear A30
   obtain ⟨y109, hy109⟩ : ∃ y_ : List ByteArray, y_ = (([t107, a0] : List ByteArray)) := ⟨_, rfl⟩
   replace H : ((pack_join.f y109).bind fun t112 => (some (t112, t108))) = some (r1, r2) := by first | (rw [hy109]; with_reducible exact H) | (have H2_ := (Option.bind_some _ _).symm.trans H; rw [hy109]; with_reducible exact H2_) | (have H2_ := (Option.bind_some _ _).symm.trans H; with_reducible exact H2_) | with_reducible exact H | (rw [hy109]; exact H) | exact H
   have Ny109 := Aside0.mk hy109
   clear hy109
   replace H := Option.bind_eq_some_iff.mp H
   obtain ⟨t112, A40, H⟩ := H
   replace H : (some (t112, t108)) = some (r1, r2) := H
   have A4 := Aside0.mk A40
   clear A40
   simp only [Option.some.injEq, Prod.mk.injEq] at H
   obtain ⟨rfl, rfl⟩ := H
   go_enter Tryz.func229, Tryz.ntmps229
   go_wp2_with (first | ((with_reducible refine gate_callee (f := 226) rfl ?_); refine goesL_ (some 12) rfl rfl Tryz.func226 (by kernel_rfl) rfl #[.int .i64 (a0.size : Int)] rfl (by (try simp only [List.map_toArray, List.map_cons, List.map_nil]); first | done | rfl | (simp only [List.length_drop, List.length_take]; rfl)) ?_; (with_reducible refine (pack_Num.calls k (a0.size : Int) t107 t108 _ A3.out).mono ?_); rintro e w5 ⟨rfl, hb⟩; refine ⟨_, rfl, ?_⟩; have n0_ := Aside0.mk (below_step (by repeat (first | (with_reducible first | exact HB.out | apply below_alloc | apply pw_below_drewN | apply below_drew1) | exact HB.out)) hb); clear HB; have HB := n0_; clear n0_; (try clear hb); (try clear hb2); (try clear hk); (try clear hi)) | ((with_reducible refine gate_dst (N := 17) rfl ?_); refine Kd.R_lit Kd.string _ 9 ?hg (N := 17) ?hd (xs := ([t107, a0] : List ByteArray)) (inner := [.string t107, .string a0]) (ok := fun _ => True) (okp := fun _ => True) ?hr ?hp (fun _ hk => hk) trivial (Below.refl _ _) (Nat.le_refl _) (by simp) ?_; (case hd => rfl); (case hg => rfl); (case hr => first | (go_simp; done) | (go_simp; rfl)); (case hp => exact (Reps.one (show Kd.M Kd.string _ _ _ t107 [.string t107] from rfl) (Reps.one (show Kd.M Kd.string _ _ _ a0 [.string a0] from rfl) (Reps.none _ _)))); intro v110 w6 ho7 hb hg_ hnew_; clear hg_ hnew_; (first | rw [← Ny109.out] at ho7 | (simp only [Int.reduceToNat] at ho7; rw [← Ny109.out] at ho7)); have n0_ := Aside0.mk (Kd.R_lower ho7 (below_size (by repeat (first | (with_reducible first | exact HB.out | apply below_alloc | apply pw_below_drewN | apply below_drew1) | exact HB.out)))); have n1_ := Aside0.mk (below_step (by repeat (first | (with_reducible first | exact HB.out | apply below_alloc | apply pw_below_drewN | apply below_drew1) | exact HB.out)) hb); clear HB; have HO111 := n0_; have HB := n1_; clear n0_ n1_; clear hb ho7; obtain ⟨Ao8, co8, eo8⟩ := Kd.R_slice HO111.out; subst eo8) | ((with_reducible refine gate_callee (f := 233) rfl ?_); refine goesL_ (some 18) rfl rfl Tryz.func233 (by kernel_rfl) rfl #[.slice Ao8 y109.length co8] rfl (by (try simp only [List.map_toArray, List.map_cons, List.map_nil]); first | done | rfl | (simp only [List.length_drop, List.length_take]; rfl)) ?_; (with_reducible refine (pack_join.calls _ _ y109 t112 _ ?side1 ?side2 A4.out).mono ?_); (case side1 => repeat (first | exact (Kd.R_reads' HO111.out).2.2 | (with_reducible refine Kd.C_alloc ?_ _) | (with_reducible refine Kd.C_drewN ?_ _) | (with_reducible refine Kd.C_drew ?_))); (case side2 => exact (Kd.R_reads' HO111.out).2.1); rintro e w9 ⟨rfl, hb⟩; refine ⟨_, rfl, ?_⟩; have n0_ := Aside0.mk (Kd.R_below (by (with_reducible repeat (first | apply Kd.R_alloc | apply Kd.R_drewN | apply Kd.R_drew)); exact HO111.out) hb); have n1_ := Aside0.mk (below_step (by repeat (first | (with_reducible first | exact HB.out | apply below_alloc | apply pw_below_drewN | apply below_drew1) | exact HB.out)) hb); clear HO111; clear HB; have HO111 := n0_; have HB := n1_; clear n0_ n1_; (try clear hb); (try clear hb2); (try clear hk); (try clear hi)))
   go_ret2
   exact ⟨by first | rfl | (simp [errW_none, errW_some] <;> rfl) | (simp [*, errW_none, errW_some] <;> rfl), by repeat (first | (with_reducible first | exact HB.out | apply below_alloc | apply pw_below_drewN | apply below_drew1) | exact HB.out)⟩

/-! ### pack_TakeText: function 230 -/
end Go.Proofs.YtgjddnaidjbhlaaGreatDoor.G

/- codec: the form that writes: that numbers and texts can be written (P19): walked by hand. -/
namespace Go.Proofs.YtgjddnaidjbhlaaGreatDoor.PhCd
open Go.RowKit Go.IntWalk Go.Proofs.YtgjddnaidjbhlaaGreatDoor.G Go.Proofs.YtgjddnaidjbhlaaGreatDoorW.PrintWords Go.Proofs.YtgjddnaidjbhlaaGreatDoorW.PrintLast Go.Proofs.YtgjddnaidjbhlaaGreatDoorW.PrintMore Go.Proofs.YtgjddnaidjbhlaaGreatDoor.PlName Go.Proofs.YtgjddnaidjbhlaaGreatDoor.Pl

theorem pack_num (a : Int) (k : Nat) (hk : 20 ≤ k) : pack_Num.f k a = some (Pk.num a) := by
 unfold pack_Num.f
 obtain ⟨k, rfl⟩ : ∃ m, k = m + 1 := ⟨k - 1, by omega⟩
 by_cases h0 : a < 0
 · rw [if_pos h0, Pk.num_bad (Or.inl h0), pack_Num.j0, if_pos rfl]
 · rw [if_neg h0]
   by_cases h1 : a > 1125899906842624
   · rw [Pk.num_bad (Or.inr h1), pack_Num.j0, if_pos (by simpa using h1)]
   · rw [Pk.num_ok (by omega) (by omega), pack_Num.j0, if_neg (by simpa using h1)]
     obtain ⟨n, rfl⟩ := Int.eq_ofNat_of_zero_le (show 0 ≤ a by omega)
     rw [Pk.pack_loop pack_Num.l0 (fun k x0 x4 => by rw [pack_Num.l0]) 7 n [] k (by omega) (by omega) (by simp), Int.toNat_natCast]
     rfl
theorem pack_text (s : ByteArray) (k : Nat) (hk : 20 ≤ k) : pack_Text.f k s = some (Pk.text s) := by
 unfold pack_Text.f Pk.text
 by_cases h0 : s.size > 2000
 · rw [if_pos (by omega), if_pos h0]
 · rw [if_neg (by omega), if_neg h0, pack_num _ k hk, Option.bind_some, Pk.num_ok (by omega) (by omega)]
   have hl := Pk.enc_len8 (n := s.size) (by omega)
   rw [Int.toNat_natCast, Joins.pack_join.f, Pk.cat_two, if_pos ⟨Pk.two_len hl h0, by simp⟩]
   rfl
theorem pk_num {n : Int} (h : 0 ≤ n ∧ n ≤ 1125899906842624) : ∃ s, pack_Num.f 20 n = some (s, 0) ∧ s.size ≤ 2008 := by
 refine ⟨_, by rw [pack_num n 20 (Nat.le_refl _), Pk.num_ok h.1 h.2], ?_⟩
 have hl := Pk.enc_len8 (n := n.toNat) (by omega)
 show (Pk.enc n.toNat).toArray.size ≤ 2008
 rw [List.size_toArray]
 omega
theorem pk_text {t : ByteArray} (h : ¬ t.size > 2000) : ∃ s, pack_Text.f 20 t = some (s, 0) ∧ s.size ≤ 2008 := by
 refine ⟨_, by rw [pack_text t 20 (Nat.le_refl _), Pk.text_ok h], ?_⟩
 have hl := Pk.item_len (s := t) (by omega)
 show (Pk.item t).toArray.size ≤ 2008
 rw [List.size_toArray]
 omega
set_option maxHeartbeats 400000 in
theorem must_yes (w : World) : Calls Tryz.prog 227 #[.bool true] w fun e w' => e = .returned (.tuple #[]) ∧ w' = w := by
 go_enter Tryz.func227, Tryz.ntmps227
 go_wp2
 go_end0
 exact ⟨rfl, rfl⟩
/-- A form is written, since the world w0: k pieces at most. -/
def Wr (w0 w : World) (gf k : Nat) : Prop := ∃ s : ByteArray, w.heap[gf]? = some (.cells #[.bool true, .string s, .int .i64 0] 163 (0, 0)) ∧ s.size ≤ k * 10000 ∧ w0.heap.size ≤ gf ∧ Below w0.heap.size w0 w
theorem Wr.put {w0 w w1 : World} {gf k : Nat} {s x : ByteArray} (h3 : s.size ≤ k * 10000) (h4 : w0.heap.size ≤ gf) (h5 : Below w0.heap.size w0 w) (hx : x.size ≤ 2008) (hr : w1.heap[gf]? = some (.cells #[.bool true, .string s, .int .i64 0] 163 (0, 0))) (hb : Below w.heap.size w w1) : Wr w0 (w1.setCell ⟨gf, 1, none⟩ (.string (s ++ x))) gf (k + 1) := by
 refine ⟨s ++ x, by rw [row_setCell hr]; simp, ?_, h4, (on_ h5 hb).setCell h4 _⟩
 have := ByteArray.size_append (a := s) (b := x)
 omega
set_option maxHeartbeats 2000000 in
set_option maxRecDepth 100000 in
theorem num_put {w0 w : World} {gf k : Nat} (h : Wr w0 w gf k) {p : Addr} {n : Int} (hp : w.cell? p = some (.int .i64 n)) (hn : 0 ≤ n ∧ n ≤ 1125899906842624) (hk : k ≤ 1000) :
 Calls Tryz.prog 222 #[.pointer (some ⟨gf, 0, none⟩), .pointer (some p)] w fun e w' => e = .returned (.tuple #[]) ∧ Wr w0 w' gf (k + 1) := by
 obtain ⟨s, h1, h3, h4, h5⟩ := h
 obtain ⟨x, hx, hxs⟩ := pk_num hn
 have h0 := row_cell (j := 0) h1 rfl
 have HF := Aside0.mk (And.intro h1 (And.intro h3 (And.intro h4 (And.intro h5 (And.intro hx hxs)))))
 have hsz : s.size + x.size ≤ 140737488355328 := by omega
 clear h1 h3 h4 h5 hx hxs hn
 go_enter Tryz.func222, Tryz.ntmps222
 go_wp2_with (first | (go_at_call 226; refine (pack_Num.calls 20 _ _ _ _ HF.out.2.2.2.2.1).mono ?_; rintro e w1 ⟨rfl, hb⟩; replace hb : Below w.heap.size w w1 := ⟨hb.os, hb.tape, hb.output, hb.size, hb.block⟩; have HB1 := Aside0.mk (And.intro hb (row_on hb HF.out.1)); have h11 := row_cell (j := 1) HB1.out.2 rfl; have hz11 := free_of_row (j := 1) HB1.out.2; clear hb) | (go_at_call 227; refine (must_yes _).mono ?_; rintro e w2 ⟨rfl, rfl⟩))
 go_returns
 exact ⟨rfl, Wr.put HF.out.2.1 HF.out.2.2.1 HF.out.2.2.2.1 HF.out.2.2.2.2.2 HB1.out.2 HB1.out.1⟩
set_option maxHeartbeats 2000000 in
set_option maxRecDepth 100000 in
theorem text_put {w0 w : World} {gf k : Nat} (h : Wr w0 w gf k) {p : Addr} {t : ByteArray} (hp : w.cell? p = some (.string t)) (hn : ¬ t.size > 2000) (hk : k ≤ 1000) :
 Calls Tryz.prog 223 #[.pointer (some ⟨gf, 0, none⟩), .pointer (some p)] w fun e w' => e = .returned (.tuple #[]) ∧ Wr w0 w' gf (k + 1) := by
 obtain ⟨s, h1, h3, h4, h5⟩ := h
 obtain ⟨x, hx, hxs⟩ := pk_text hn
 have h0 := row_cell (j := 0) h1 rfl
 have HF := Aside0.mk (And.intro h1 (And.intro h3 (And.intro h4 (And.intro h5 (And.intro hx hxs)))))
 have hsz : s.size + x.size ≤ 140737488355328 := by omega
 clear h1 h3 h4 h5 hx hxs hn
 go_enter Tryz.func223, Tryz.ntmps223
 go_wp2_with (first | (go_at_call 229; refine (pack_Text.calls 20 _ _ _ _ HF.out.2.2.2.2.1).mono ?_; rintro e w1 ⟨rfl, hb⟩; replace hb : Below w.heap.size w w1 := ⟨hb.os, hb.tape, hb.output, hb.size, hb.block⟩; have HB1 := Aside0.mk (And.intro hb (row_on hb HF.out.1)); have h11 := row_cell (j := 1) HB1.out.2 rfl; have hz11 := free_of_row (j := 1) HB1.out.2; clear hb) | (go_at_call 227; refine (must_yes _).mono ?_; rintro e w2 ⟨rfl, rfl⟩))
 go_returns
 exact ⟨rfl, Wr.put HF.out.2.1 HF.out.2.2.1 HF.out.2.2.2.1 HF.out.2.2.2.2.2 HB1.out.2 HB1.out.1⟩
end Go.Proofs.YtgjddnaidjbhlaaGreatDoor.PhCd

-- Written by gprint.py, a program of this session, over the kit's print of the loaded functions. Not trusted: Lean checks it.
namespace Go.Proofs.YtgjddnaidjbhlaaGreatDoor.B
open Go.RowKit Go.Proofs.YtgjddnaidjbhlaaGreatDoorW.PrintWords Go.Proofs.YtgjddnaidjbhlaaGreatDoorW.PrintLast Go.Proofs.YtgjddnaidjbhlaaGreatDoorW.PrintMore 
attribute [local go_sem] max2_int min2_int max_two min_two max_three min_three max_four min_four   -- for this text's walks alone
set_option linter.unusedVariables false
set_option linter.unusedSimpArgs false

def errW : Option Int → Value
 | none => .nilIface
 | some c => .iface 0 (.int .i64 c)
theorem errW_none : errW none = .nilIface := rfl
theorem errW_some (c : Int) : errW (some c) = .iface 0 (.int .i64 c) := rfl

-- the values' own types

end Go.Proofs.YtgjddnaidjbhlaaGreatDoor.B

-- Written by gprint.py, a program of this session, over the kit's print of the loaded functions. Not trusted: Lean checks it.
namespace Go.Proofs.YtgjddnaidjbhlaaGreatDoor.B
open Go.RowKit Go.Proofs.YtgjddnaidjbhlaaGreatDoorW.PrintWords Go.Proofs.YtgjddnaidjbhlaaGreatDoorW.PrintLast Go.Proofs.YtgjddnaidjbhlaaGreatDoorW.PrintMore 
attribute [local go_sem] max2_int min2_int max_two min_two max_three min_three max_four min_four   -- for this text's walks alone
set_option linter.unusedVariables false
set_option linter.unusedSimpArgs false

/-! ### codec_between: function 231 -/
def codec_between.f (a0 : Int) (a1 : Int) (a2 : Int) : Option (Bool) := if a1 ≤ a0 then (some (decide (a0 ≤ a2))) else (some false)
set_option maxHeartbeats 8000000 in
set_option maxRecDepth 100000 in
theorem codec_between.calls (a0 : Int) (a1 : Int) (a2 : Int) (r : Bool) (w : World) (h : codec_between.f a0 a1 a2 = some r) :
 Calls Tryz.prog 231 #[.int .i64 a0, .int .i64 a1, .int .i64 a2] w fun e w' => e = .returned (.bool r) ∧ Drawn0 w w' := by
 have H : (if a1 ≤ a0 then (some (decide (a0 ≤ a2))) else (some false)) = some r := h
 clear h
 by_cases c4 : a1 ≤ a0
 · rw [if_pos c4] at H
   have c4b0 : decide (a1 ≤ a0) = true := decide_eq_true c4
   clear c4
   obtain rfl := Option.some.inj H
   go_enter Tryz.func231, Tryz.ntmps231
   go_wp2
   go_ret
   exact ⟨by first | rfl | (simp; done) | (simp [*]; done), by repeat (first | exact Drawn0.refl _ | apply Drawn0.step)⟩
 · rw [if_neg c4] at H
   have c4b0 : decide (a1 ≤ a0) = false := decide_eq_false c4
   clear c4
   obtain rfl := Option.some.inj H
   go_enter Tryz.func231, Tryz.ntmps231
   go_wp2
   go_ret
   exact ⟨by first | rfl | (simp; done) | (simp [*]; done), by repeat (first | exact Drawn0.refl _ | apply Drawn0.step)⟩

/-! ### codec_isID: function 225 -/
def codec_isID.f (a0 : Int) : Option (Bool) := (codec_between.f a0 1 60).bind fun t101 => (some t101)
set_option maxHeartbeats 8000000 in
set_option maxRecDepth 100000 in
theorem codec_isID.calls (a0 : Int) (r : Bool) (w : World) (h : codec_isID.f a0 = some r) :
 Calls Tryz.prog 225 #[.int .i64 a0] w fun e w' => e = .returned (.bool r) ∧ Drawn0 w w' := by
 have H : ((codec_between.f a0 1 60).bind fun t101 => (some t101)) = some r := h
 clear h
 replace H := Option.bind_eq_some_iff.mp H
 obtain ⟨t101, A20, H⟩ := H
 replace H : (some t101) = some r := H
 have A2 := Aside0.mk A20
 clear A20
 obtain rfl := Option.some.inj H
 go_enter Tryz.func225, Tryz.ntmps225
 go_wp2_with (first | ((with_reducible refine gate_callee (f := 231) rfl ?_); refine goesL_ (some 4) rfl rfl Tryz.func231 (by kernel_rfl) rfl #[.int .i64 a0, .int .i64 1, .int .i64 60] rfl (by (try simp only [List.map_toArray, List.map_cons, List.map_nil]); first | done | rfl | (simp only [List.length_drop, List.length_take]; rfl)) ?_; (with_reducible refine (codec_between.calls a0 1 60 t101 _ A2.out).mono ?_); rintro e w' ⟨rfl, ⟨nd, rfl⟩⟩; refine ⟨_, rfl, ?_⟩))
 go_ret
 exact ⟨by first | rfl | (simp; done) | (simp [*]; done), by repeat (first | exact Drawn0.refl _ | apply Drawn0.step)⟩

/-! ### codec_isStep: function 232 -/
def codec_isStep.f (a0 : Int) : Option (Bool) := (codec_between.f a0 0 7).bind fun t102 => (some t102)
set_option maxHeartbeats 8000000 in
set_option maxRecDepth 100000 in
theorem codec_isStep.calls (a0 : Int) (r : Bool) (w : World) (h : codec_isStep.f a0 = some r) :
 Calls Tryz.prog 232 #[.int .i64 a0] w fun e w' => e = .returned (.bool r) ∧ Drawn0 w w' := by
 have H : ((codec_between.f a0 0 7).bind fun t102 => (some t102)) = some r := h
 clear h
 replace H := Option.bind_eq_some_iff.mp H
 obtain ⟨t102, A20, H⟩ := H
 replace H : (some t102) = some r := H
 have A2 := Aside0.mk A20
 clear A20
 obtain rfl := Option.some.inj H
 go_enter Tryz.func232, Tryz.ntmps232
 go_wp2_with (first | ((with_reducible refine gate_callee (f := 231) rfl ?_); refine goesL_ (some 4) rfl rfl Tryz.func231 (by kernel_rfl) rfl #[.int .i64 a0, .int .i64 0, .int .i64 7] rfl (by (try simp only [List.map_toArray, List.map_cons, List.map_nil]); first | done | rfl | (simp only [List.length_drop, List.length_take]; rfl)) ?_; (with_reducible refine (codec_between.calls a0 0 7 t102 _ A2.out).mono ?_); rintro e w' ⟨rfl, ⟨nd, rfl⟩⟩; refine ⟨_, rfl, ?_⟩))
 go_ret
 exact ⟨by first | rfl | (simp; done) | (simp [*]; done), by repeat (first | exact Drawn0.refl _ | apply Drawn0.step)⟩

end Go.Proofs.YtgjddnaidjbhlaaGreatDoor.B

/- codec: fields, own, may, written of a note, and codec.Note (P19): walked by hand. -/
namespace Go.Proofs.YtgjddnaidjbhlaaGreatDoor.PhCd
open Go.RowKit Go.IntWalk Go.Proofs.YtgjddnaidjbhlaaGreatDoor.B Go.Proofs.YtgjddnaidjbhlaaGreatDoorW.PrintWords Go.Proofs.YtgjddnaidjbhlaaGreatDoorW.PrintLast Go.Proofs.YtgjddnaidjbhlaaGreatDoorW.PrintMore Go.Proofs.YtgjddnaidjbhlaaGreatDoor.PlName Go.Proofs.YtgjddnaidjbhlaaGreatDoor.Pl Go.Proofs.YtgjddnaidjbhlaaGreatDoor.Ph
attribute [local go_sem ↓] Go.wp_at_zero Go.wp_at_succ

def InN (n : Int) : Prop := 0 ≤ n ∧ n ≤ 1125899906842624
/-- What can be written at all. -/
structure Fits (n : Note) : Prop where
 kind : InN n.kind
 inst : InN n.inst
 step : InN n.step
 state : InN n.state
 part : InN n.part
 cause : InN n.cause
 version : InN n.version
 key : ¬ n.key.size > 2000
 name : ¬ n.name.size > 2000
 text : ¬ n.text.size > 2000
theorem Wr.cell {w0 w : World} {gf k : Nat} (h : Wr w0 w gf k) {g t j : Nat} {arr : Array Value} {v : Value} (hg : w0.heap[g]? = some (.cells arr t (0, 0))) (hj : arr[j]? = some v) : w.cell? ⟨g, j, none⟩ = some v := by
 obtain ⟨s, h1, h2, h3, h4⟩ := h
 exact row_cell (row_on h4 hg) hj
theorem Wr.more {w0 w : World} {gf k k' : Nat} (h : Wr w0 w gf k) (hk : k ≤ k') : Wr w0 w gf k' := by
 obtain ⟨s, h1, h2, h3⟩ := h
 exact ⟨s, h1, Nat.le_trans h2 (Nat.mul_le_mul_right _ hk), h3⟩
theorem kinds (n : Int) : n = 1 ∨ n = 2 ∨ n = 5 ∨ n = 6 ∨ n = 8 ∨ n = 9 ∨ ((n == 1) = false ∧ (n == 2) = false ∧ (n == 5) = false ∧ (n == 6) = false ∧ (n == 8) = false ∧ (n == 9) = false) := by
 simp only [beq_eq_false_iff_ne, ne_eq]
 omega
set_option maxHeartbeats 6000000 in
set_option maxRecDepth 100000 in
theorem fields_calls {w0 w : World} {g gf : Nat} (kind inst step state part cause : Int) (key name : ByteArray) (version : Int) (text : ByteArray) (hf : Fits ⟨kind, inst, step, state, part, cause, key, name, version, text⟩) (hg : w0.heap[g]? = some (.cells #[.int .i64 kind, .int .i64 inst, .int .i64 step, .int .i64 state, .int .i64 part, .int .i64 cause, .string key, .string name, .int .i64 version, .string text] 137 (0, 0))) (h : Wr w0 w gf 1) :
 Calls Tryz.prog 220 #[.pointer (some ⟨g, 0, none⟩), .pointer (some ⟨gf, 0, none⟩)] w fun e w' => e = .returned (.tuple #[]) ∧ Wr w0 w' gf 20 := by
 have HF := Aside0.mk hf
 have HW := Aside0.mk h
 replace hg := Aside0.mk hg
 have hcell := HW.out.cell (j := 0) hg.out rfl
 clear hf h
 go_enter Tryz.func220, Tryz.ntmps220
 rcases kinds kind with rfl | rfl | rfl | rfl | rfl | rfl | ⟨hk0, hk1, hk2, hk3, hk4, hk5⟩
 all_goals
  go_wp2_with (first
   | (go_at_call 222; refine Calls.mono (num_put HW.out (HW.out.cell hg.out (by rfl)) (by first | exact HF.out.kind | exact HF.out.inst | exact HF.out.step | exact HF.out.state | exact HF.out.part | exact HF.out.cause | exact HF.out.version) (by decide)) ?_; rintro e w1 ⟨rfl, hW⟩; replace HW := Aside0.mk hW; clear hW; have hcell := HW.out.cell (j := 0) hg.out rfl)
   | (go_at_call 223; refine Calls.mono (text_put HW.out (HW.out.cell hg.out (by rfl)) (by first | exact HF.out.key | exact HF.out.name | exact HF.out.text) (by decide)) ?_; rintro e w1 ⟨rfl, hW⟩; replace HW := Aside0.mk hW; clear hW; have hcell := HW.out.cell (j := 0) hg.out rfl))
  all_goals (go_returns; exact ⟨rfl, HW.out.more (by decide)⟩)
end Go.Proofs.YtgjddnaidjbhlaaGreatDoor.PhCd

/- codec: own of a note (P19): walked by hand. -/
namespace Go.Proofs.YtgjddnaidjbhlaaGreatDoor.PhCd
open Go.RowKit Go.IntWalk Go.Proofs.YtgjddnaidjbhlaaGreatDoor.B Go.Proofs.YtgjddnaidjbhlaaGreatDoorW.PrintWords Go.Proofs.YtgjddnaidjbhlaaGreatDoorW.PrintLast Go.Proofs.YtgjddnaidjbhlaaGreatDoorW.PrintMore Go.Proofs.YtgjddnaidjbhlaaGreatDoor.PlName Go.Proofs.YtgjddnaidjbhlaaGreatDoor.Pl Go.Proofs.YtgjddnaidjbhlaaGreatDoor.Ph
attribute [local go_sem ↓] Go.wp_at_zero Go.wp_at_succ

theorem between_f (n a b : Int) : codec_between.f n a b = some (btwN n a b) := by
 unfold codec_between.f btwN
 by_cases h : a ≤ n <;> simp [h]
theorem id_calls (n : Int) (r : Bool) (w : World) (h : btwN n 1 60 = r) : Calls Tryz.prog 225 #[.int .i64 n] w fun e w' => ∃ nd, e = .returned (.bool r) ∧ w' = w.drewN nd := by
 subst h
 refine (codec_isID.calls n _ w (by rw [codec_isID.f, between_f]; rfl)).mono ?_
 rintro e w' ⟨rfl, nd, rfl⟩
 exact ⟨nd, rfl, rfl⟩
theorem step_calls (n : Int) (r : Bool) (w : World) (h : btwN n 0 7 = r) : Calls Tryz.prog 232 #[.int .i64 n] w fun e w' => ∃ nd, e = .returned (.bool r) ∧ w' = w.drewN nd := by
 subst h
 refine (codec_isStep.calls n _ w (by rw [codec_isStep.f, between_f]; rfl)).mono ?_
 rintro e w' ⟨rfl, nd, rfl⟩
 exact ⟨nd, rfl, rfl⟩
theorem row10 {w : World} {g t : Nat} {a0 a1 a2 a3 a4 a5 a6 a7 a8 a9 : Value} (h : w.heap[g]? = some (.cells #[a0, a1, a2, a3, a4, a5, a6, a7, a8, a9] t (0, 0))) (v0 v1 v2 v3 v4 v5 v6 v7 v8 v9 : Value) :
 ((((((((((w.setCell ⟨g, 0, none⟩ v0).setCell ⟨g, 1, none⟩ v1).setCell ⟨g, 2, none⟩ v2).setCell ⟨g, 3, none⟩ v3).setCell ⟨g, 4, none⟩ v4).setCell ⟨g, 5, none⟩ v5).setCell ⟨g, 6, none⟩ v6).setCell ⟨g, 7, none⟩ v7).setCell ⟨g, 8, none⟩ v8).setCell ⟨g, 9, none⟩ v9).heap[g]? = some (.cells #[v0, v1, v2, v3, v4, v5, v6, v7, v8, v9] t (0, 0)) := by
 have h0 : (w.setCell ⟨g, 0, none⟩ v0).heap[g]? = some (.cells #[v0, a1, a2, a3, a4, a5, a6, a7, a8, a9] t (0, 0)) := by
  rw [row_setCell h 0 v0]
  simp
 generalize w.setCell ⟨g, 0, none⟩ v0 = w0 at h0 ⊢
 have h1 : (w0.setCell ⟨g, 1, none⟩ v1).heap[g]? = some (.cells #[v0, v1, a2, a3, a4, a5, a6, a7, a8, a9] t (0, 0)) := by
  rw [row_setCell h0 1 v1]
  simp
 generalize w0.setCell ⟨g, 1, none⟩ v1 = w1 at h1 ⊢
 have h2 : (w1.setCell ⟨g, 2, none⟩ v2).heap[g]? = some (.cells #[v0, v1, v2, a3, a4, a5, a6, a7, a8, a9] t (0, 0)) := by
  rw [row_setCell h1 2 v2]
  simp
 generalize w1.setCell ⟨g, 2, none⟩ v2 = w2 at h2 ⊢
 have h3 : (w2.setCell ⟨g, 3, none⟩ v3).heap[g]? = some (.cells #[v0, v1, v2, v3, a4, a5, a6, a7, a8, a9] t (0, 0)) := by
  rw [row_setCell h2 3 v3]
  simp
 generalize w2.setCell ⟨g, 3, none⟩ v3 = w3 at h3 ⊢
 have h4 : (w3.setCell ⟨g, 4, none⟩ v4).heap[g]? = some (.cells #[v0, v1, v2, v3, v4, a5, a6, a7, a8, a9] t (0, 0)) := by
  rw [row_setCell h3 4 v4]
  simp
 generalize w3.setCell ⟨g, 4, none⟩ v4 = w4 at h4 ⊢
 have h5 : (w4.setCell ⟨g, 5, none⟩ v5).heap[g]? = some (.cells #[v0, v1, v2, v3, v4, v5, a6, a7, a8, a9] t (0, 0)) := by
  rw [row_setCell h4 5 v5]
  simp
 generalize w4.setCell ⟨g, 5, none⟩ v5 = w5 at h5 ⊢
 have h6 : (w5.setCell ⟨g, 6, none⟩ v6).heap[g]? = some (.cells #[v0, v1, v2, v3, v4, v5, v6, a7, a8, a9] t (0, 0)) := by
  rw [row_setCell h5 6 v6]
  simp
 generalize w5.setCell ⟨g, 6, none⟩ v6 = w6 at h6 ⊢
 have h7 : (w6.setCell ⟨g, 7, none⟩ v7).heap[g]? = some (.cells #[v0, v1, v2, v3, v4, v5, v6, v7, a8, a9] t (0, 0)) := by
  rw [row_setCell h6 7 v7]
  simp
 generalize w6.setCell ⟨g, 7, none⟩ v7 = w7 at h7 ⊢
 have h8 : (w7.setCell ⟨g, 8, none⟩ v8).heap[g]? = some (.cells #[v0, v1, v2, v3, v4, v5, v6, v7, v8, a9] t (0, 0)) := by
  rw [row_setCell h7 8 v8]
  simp
 generalize w7.setCell ⟨g, 8, none⟩ v8 = w8 at h8 ⊢
 have h9 : (w8.setCell ⟨g, 9, none⟩ v9).heap[g]? = some (.cells #[v0, v1, v2, v3, v4, v5, v6, v7, v8, v9] t (0, 0)) := by
  rw [row_setCell h8 9 v9]
  simp
 generalize w8.setCell ⟨g, 9, none⟩ v9 = w9 at h9 ⊢
 exact h9
theorem below10 {a w : World} {g : Nat} (h : Below g a w) (v0 v1 v2 v3 v4 v5 v6 v7 v8 v9 : Value) : Below g a ((((((((((w.setCell ⟨g, 0, none⟩ v0).setCell ⟨g, 1, none⟩ v1).setCell ⟨g, 2, none⟩ v2).setCell ⟨g, 3, none⟩ v3).setCell ⟨g, 4, none⟩ v4).setCell ⟨g, 5, none⟩ v5).setCell ⟨g, 6, none⟩ v6).setCell ⟨g, 7, none⟩ v7).setCell ⟨g, 8, none⟩ v8).setCell ⟨g, 9, none⟩ v9) := by
 have s : ∀ (U : World) (j : Nat) (v : Value), Below g a U → Below g a (U.setCell ⟨g, j, none⟩ v) := fun U j v h => h.setCell (p := ⟨g, j, none⟩) (Nat.le_refl _) v
 exact s _ _ _ (s _ _ _ (s _ _ _ (s _ _ _ (s _ _ _ (s _ _ _ (s _ _ _ (s _ _ _ (s _ _ _ (s _ _ _ h)))))))))
def OwnPost (w w' : World) (e : Ending) (x : Note) (ok : Bool) : Prop := e = .returned (.tuple #[.agg #[.int .i64 x.kind, .int .i64 x.inst, .int .i64 x.step, .int .i64 x.state, .int .i64 x.part, .int .i64 x.cause, .string x.key, .string x.name, .int .i64 x.version, .string x.text], .bool ok]) ∧ Below w.heap.size w w'
set_option maxHeartbeats 16000000 in
set_option maxRecDepth 100000 in
theorem own_5 {w : World} {g : Nat} (inst step state part cause : Int) (key name : ByteArray) (version : Int) (text : ByteArray) (hg : w.heap[g]? = some (.cells #[.int .i64 5, .int .i64 inst, .int .i64 step, .int .i64 state, .int .i64 part, .int .i64 cause, .string key, .string name, .int .i64 version, .string text] 137 (0, 0))) :
 Calls Tryz.prog 224 #[.pointer (some ⟨g, 0, none⟩)] w fun e w' => OwnPost w w' e ⟨0, 0, step, 0, 0, 0, ⟨#[]⟩, ⟨#[]⟩, 0, ⟨#[]⟩⟩ (btwN step 0 7) := by
 have b0 := below_one w (.cells #[.int .i64 0, .int .i64 0, .int .i64 0, .int .i64 0, .int .i64 0, .int .i64 0, .string ⟨#[]⟩, .string ⟨#[]⟩, .int .i64 0, .string ⟨#[]⟩] 137)
 have r0 := alloc1 w (.cells #[.int .i64 0, .int .i64 0, .int .i64 0, .int .i64 0, .int .i64 0, .int .i64 0, .string ⟨#[]⟩, .string ⟨#[]⟩, .int .i64 0, .string ⟨#[]⟩] 137)
 have hst := Aside0.mk (fun W => step_calls step _ W rfl)
 have hne : g ≠ w.heap.size := fun e => by have := (Array.getElem?_eq_some_iff.1 hg).1; omega
 have hg0 := row_on b0 hg
 generalize btwN step 0 7 = ok at *
 go_enter Tryz.func224, Tryz.ntmps224
 go_upto_region 1 with fail
 have hlo : w.heap.size ≤ w.heap.size := Nat.le_refl _
 generalize hr : w.heap.size = r at *
 generalize World.alloc w _ = w0 at *
 have HB := Aside0.mk (And.intro (And.intro b0 r0) (And.intro hg0 hr))
 have hen : r ≠ g := Ne.symm hne
 have hc0 : w0.cell? ⟨g, 0, none⟩ = some (.int .i64 5) := row_cell hg0 rfl
 have hc2 : w0.cell? ⟨g, 2, none⟩ = some (.int .i64 step) := row_cell hg0 rfl
 have hz0 := row_cell (j := 0) r0 rfl
 have hf0 := free_of_row (j := 0) r0
 have hz1 := row_cell (j := 1) r0 rfl
 have hf1 := free_of_row (j := 1) r0
 have hz2 := row_cell (j := 2) r0 rfl
 have hf2 := free_of_row (j := 2) r0
 have hz3 := row_cell (j := 3) r0 rfl
 have hf3 := free_of_row (j := 3) r0
 have hz4 := row_cell (j := 4) r0 rfl
 have hf4 := free_of_row (j := 4) r0
 have hz5 := row_cell (j := 5) r0 rfl
 have hf5 := free_of_row (j := 5) r0
 have hz6 := row_cell (j := 6) r0 rfl
 have hf6 := free_of_row (j := 6) r0
 have hz7 := row_cell (j := 7) r0 rfl
 have hf7 := free_of_row (j := 7) r0
 have hz8 := row_cell (j := 8) r0 rfl
 have hf8 := free_of_row (j := 8) r0
 have hz9 := row_cell (j := 9) r0 rfl
 have hf9 := free_of_row (j := 9) r0
 clear hg hg0 b0 r0 hr hlo
 go_upto_region 11 with fail
 go_region_held3 (fun w' => w'.cell? ⟨g, 2, none⟩ = some (.int .i64 step)) (first | go_keep) (first | (go_at_call 232; refine (hst.out _).mono ?_; rintro e w3 ⟨nd, rfl, rfl⟩))
 all_goals
  go_wp2_with fail
  have hq := below10 (pw_below_drewN HB.out.1.1 (1 + nd)) (.int .i64 0) (.int .i64 0) (.int .i64 step) (.int .i64 0) (.int .i64 0) (.int .i64 0) (.string ⟨#[]⟩) (.string ⟨#[]⟩) (.int .i64 0) (.string ⟨#[]⟩)
  have hrr := row10 (row_on (pw_below_drewN (Below.refl w0.heap.size w0) (1 + nd)) HB.out.1.2) (.int .i64 0) (.int .i64 0) (.int .i64 step) (.int .i64 0) (.int .i64 0) (.int .i64 0) (.string ⟨#[]⟩) (.string ⟨#[]⟩) (.int .i64 0) (.string ⟨#[]⟩)
  generalize World.setCell _ _ _ = U at hq hrr ⊢
  refine bodyPost_ret (results_ct rfl _ _ r 137 _ (0, 0) _ rfl hrr Tryz.underlying137 rfl (by kernel_rfl)) rfl ?_
  exact ⟨rfl, by rw [HB.out.2.2]; exact hq⟩
end Go.Proofs.YtgjddnaidjbhlaaGreatDoor.PhCd

/- codec: may of a note (P19): walked by hand. -/
namespace Go.Proofs.YtgjddnaidjbhlaaGreatDoor.PhCd
open Go.RowKit Go.IntWalk Go.Proofs.YtgjddnaidjbhlaaGreatDoor.B Go.Proofs.YtgjddnaidjbhlaaGreatDoorW.PrintWords Go.Proofs.YtgjddnaidjbhlaaGreatDoorW.PrintLast Go.Proofs.YtgjddnaidjbhlaaGreatDoorW.PrintMore Go.Proofs.YtgjddnaidjbhlaaGreatDoor.PlName Go.Proofs.YtgjddnaidjbhlaaGreatDoor.Pl Go.Proofs.YtgjddnaidjbhlaaGreatDoor.Ph
attribute [local go_sem ↓] Go.wp_at_zero Go.wp_at_succ

theorem eqAN (d : Nat) (w : World) (x0 y0 : Int) (x1 y1 : Int) (x2 y2 : Int) (x3 y3 : Int) (x4 y4 : Int) (x5 y5 : Int) (x6 y6 : ByteArray) (x7 y7 : ByteArray) (x8 y8 : Int) (x9 y9 : ByteArray) :
 (Op.equalIn (d + 2) 137 (.agg #[.int .i64 x0, .int .i64 x1, .int .i64 x2, .int .i64 x3, .int .i64 x4, .int .i64 x5, .string x6, .string x7, .int .i64 x8, .string x9]) (.agg #[.int .i64 y0, .int .i64 y1, .int .i64 y2, .int .i64 y3, .int .i64 y4, .int .i64 y5, .string y6, .string y7, .int .i64 y8, .string y9])).run Tryz.prog w = .ok (x0 == y0 && (x1 == y1 && (x2 == y2 && (x3 == y3 && (x4 == y4 && (x5 == y5 && (x6.toList == y6.toList && (x7.toList == y7.toList && (x8 == y8 && (x9.toList == y9.toList)))))))))) w := by
 refine eqA_of Tryz.underlying137 (by kernel_rfl) ?_
 refine eqf_cons (by rfl) (by go_simp; rfl) (by go_simp; rfl) (by go_simp) ?_
 refine eqf_cons (by rfl) (by go_simp; rfl) (by go_simp; rfl) (by go_simp) ?_
 refine eqf_cons (by rfl) (by go_simp; rfl) (by go_simp; rfl) (by go_simp) ?_
 refine eqf_cons (by rfl) (by go_simp; rfl) (by go_simp; rfl) (by go_simp) ?_
 refine eqf_cons (by rfl) (by go_simp; rfl) (by go_simp; rfl) (by go_simp) ?_
 refine eqf_cons (by rfl) (by go_simp; rfl) (by go_simp; rfl) (by go_simp) ?_
 refine eqf_cons (by rfl) (by go_simp; rfl) (by go_simp; rfl) (by go_simp) ?_
 refine eqf_cons (by rfl) (by go_simp; rfl) (by go_simp; rfl) (by go_simp) ?_
 refine eqf_cons (by rfl) (by go_simp; rfl) (by go_simp; rfl) (by go_simp) ?_
 exact eqf_last (by rfl) (by go_simp; rfl) (by go_simp; rfl) (by go_simp)
attribute [local go_sem high] eqAN
def eqN (x n : Note) : Bool := x.step == n.step && (x.state == n.state && (x.part == n.part && (x.cause == n.cause && (x.key.toList == n.key.toList && (x.name.toList == n.name.toList && (x.version == n.version && x.text.toList == n.text.toList))))))
/-- The worlds of may, behind own. -/
structure My (w W : World) (g r : Nat) (kind inst step state part cause : Int) (key name : ByteArray) (version : Int) (text : ByteArray) (a0 a1 : Int) (x : Note) : Prop where
 below : Below w.heap.size w W
 row : W.heap[g]? = some (.cells #[.int .i64 kind, .int .i64 inst, .int .i64 step, .int .i64 state, .int .i64 part, .int .i64 cause, .string key, .string name, .int .i64 version, .string text] 137 (0, 0))
 box : W.heap[r]? = some (.cells #[.int .i64 a0, .int .i64 a1, .int .i64 x.step, .int .i64 x.state, .int .i64 x.part, .int .i64 x.cause, .string x.key, .string x.name, .int .i64 x.version, .string x.text] 137 (0, 0))
 ne : g ≠ r
 lo : w.heap.size ≤ r
section
variable {w W W2 : World} {g r : Nat} {kind inst step state part cause : Int} {key name : ByteArray} {version : Int} {text : ByteArray} {a0 a1 : Int} {x : Note}
theorem My.on (h : My w W g r kind inst step state part cause key name version text a0 a1 x) (hb : Below W.heap.size W W2) : My w W2 g r kind inst step state part cause key name version text a0 a1 x := ⟨on_ h.below hb, row_on hb h.row, row_on hb h.box, h.ne, h.lo⟩
theorem My.set0 (h : My w W g r kind inst step state part cause key name version text a0 a1 x) (v : Int) : My w (W.setCell ⟨r, 0, none⟩ (.int .i64 v)) g r kind inst step state part cause key name version text v a1 x := ⟨h.below.setCell h.lo _, row_setCell_ne h.row _ _ h.ne, by rw [row_setCell h.box]; simp, h.ne, h.lo⟩
theorem My.set1 (h : My w W g r kind inst step state part cause key name version text a0 a1 x) (v : Int) : My w (W.setCell ⟨r, 1, none⟩ (.int .i64 v)) g r kind inst step state part cause key name version text a0 v x := ⟨h.below.setCell h.lo _, row_setCell_ne h.row _ _ h.ne, by rw [row_setCell h.box]; simp, h.ne, h.lo⟩
end
set_option maxHeartbeats 16000000 in
set_option maxRecDepth 100000 in
theorem may_calls {w : World} {g : Nat} (kind inst step state part cause : Int) (key name : ByteArray) (version : Int) (text : ByteArray) (x : Note) (ok : Bool) (hg : w.heap[g]? = some (.cells #[.int .i64 kind, .int .i64 inst, .int .i64 step, .int .i64 state, .int .i64 part, .int .i64 cause, .string key, .string name, .int .i64 version, .string text] 137 (0, 0))) (hk : (kind == 1) = false)
 (hown : Calls Tryz.prog 224 #[.pointer (some ⟨g, 0, none⟩)] w fun e w' => OwnPost w w' e x ok) :
 Calls Tryz.prog 221 #[.pointer (some ⟨g, 0, none⟩)] w fun e w' => e = .returned (.bool (ok && (btwN inst 1 60 && eqN x ⟨kind, inst, step, state, part, cause, key, name, version, text⟩))) ∧ Below w.heap.size w w' := by
 have HO := Aside0.mk hown
 have HG := Aside0.mk hg
 have hglt := (Array.getElem?_eq_some_iff.1 hg).1
 have hid := Aside0.mk (fun W => id_calls inst _ W rfl)
 clear hown hg
 go_enter Tryz.func221, Tryz.ntmps221
 go_upto_region 2 with (first | (go_at_call 224; refine HO.out.mono ?_; rintro e w1 ⟨rfl, hb1⟩; have HB1 := Aside0.mk hb1; clear hb1))
 have hM : My w (w1.alloc (.cells #[.int .i64 x.kind, .int .i64 x.inst, .int .i64 x.step, .int .i64 x.state, .int .i64 x.part, .int .i64 x.cause, .string x.key, .string x.name, .int .i64 x.version, .string x.text] 137)) g w1.heap.size kind inst step state part cause key name version text x.kind x.inst x := ⟨on_ HB1.out (below_one _ _), row_on (below_one _ _) (row_on HB1.out HG.out), alloc1 w1 _, by have := HB1.out.size; omega, HB1.out.size⟩
 generalize w1.heap.size = r at *
 generalize World.alloc w1 _ = w2 at *
 have HM := Aside0.mk hM
 have hc0 : w2.cell? ⟨g, 0, none⟩ = some (.int .i64 kind) := row_cell hM.row rfl
 have hc1 : w2.cell? ⟨g, 1, none⟩ = some (.int .i64 inst) := row_cell hM.row rfl
 have hb0 := row_cell (j := 0) hM.box rfl
 have hb1 := row_cell (j := 1) hM.box rfl
 have hf0 := free_of_row (j := 0) hM.box
 have hf1 := free_of_row (j := 1) hM.box
 have hgr : g ≠ r := hM.ne
 have hrg : r ≠ g := Ne.symm hM.ne
 clear hM hglt HB1 HO HG
 go_cut [19] (fun _ wc => My w wc g r kind inst step state part cause key name version text kind inst x)
 case first =>
  go_region_held3 (fun w' => w'.cell? ⟨g, 0, none⟩ = some (.int .i64 kind) ∧ w'.cell? ⟨g, 1, none⟩ = some (.int .i64 inst)) (first | go_keep) (first | fail)
  all_goals
   go_wp2_with fail
   go_meet
   first
    | exact ((HM.out.set0 kind).set1 inst).on (below_drew (Below.refl _ _))
    | exact ((HM.out.set1 inst).set0 kind).on (below_drew (Below.refl _ _))
 case rest =>
  have HY := Aside0.mk hcut
  have hc0 : wc.cell? ⟨g, 0, none⟩ = some (.int .i64 kind) := row_cell hcut.row rfl
  have hc1 : wc.cell? ⟨g, 1, none⟩ = some (.int .i64 inst) := row_cell hcut.row rfl
  have hc2 : wc.cell? ⟨g, 2, none⟩ = some (.int .i64 step) := row_cell hcut.row rfl
  have hc3 : wc.cell? ⟨g, 3, none⟩ = some (.int .i64 state) := row_cell hcut.row rfl
  have hc4 : wc.cell? ⟨g, 4, none⟩ = some (.int .i64 part) := row_cell hcut.row rfl
  have hc5 : wc.cell? ⟨g, 5, none⟩ = some (.int .i64 cause) := row_cell hcut.row rfl
  have hc6 : wc.cell? ⟨g, 6, none⟩ = some (.string key) := row_cell hcut.row rfl
  have hc7 : wc.cell? ⟨g, 7, none⟩ = some (.string name) := row_cell hcut.row rfl
  have hc8 : wc.cell? ⟨g, 8, none⟩ = some (.int .i64 version) := row_cell hcut.row rfl
  have hc9 : wc.cell? ⟨g, 9, none⟩ = some (.string text) := row_cell hcut.row rfl
  have hd0 : wc.cell? ⟨r, 0, none⟩ = some (.int .i64 kind) := row_cell hcut.box rfl
  have hd1 : wc.cell? ⟨r, 1, none⟩ = some (.int .i64 inst) := row_cell hcut.box rfl
  have hd2 : wc.cell? ⟨r, 2, none⟩ = some (.int .i64 x.step) := row_cell hcut.box rfl
  have hd3 : wc.cell? ⟨r, 3, none⟩ = some (.int .i64 x.state) := row_cell hcut.box rfl
  have hd4 : wc.cell? ⟨r, 4, none⟩ = some (.int .i64 x.part) := row_cell hcut.box rfl
  have hd5 : wc.cell? ⟨r, 5, none⟩ = some (.int .i64 x.cause) := row_cell hcut.box rfl
  have hd6 : wc.cell? ⟨r, 6, none⟩ = some (.string x.key) := row_cell hcut.box rfl
  have hd7 : wc.cell? ⟨r, 7, none⟩ = some (.string x.name) := row_cell hcut.box rfl
  have hd8 : wc.cell? ⟨r, 8, none⟩ = some (.int .i64 x.version) := row_cell hcut.box rfl
  have hd9 : wc.cell? ⟨r, 9, none⟩ = some (.string x.text) := row_cell hcut.box rfl
  clear hcut HM hgr hrg hb0 hb1 hf0 hf1
  generalize hbi : btwN inst 1 60 = bi at *
  replace hbi := Aside0.mk hbi
  cases ok
  · go_upto_region 5 with fail
    go_quiet (fail)
    go_wp2_with fail
    go_ret
    exact ⟨rfl, pw_below_drewN HY.out.below _⟩
  · cases bi
    · go_upto_region 5 with fail
      go_quiet ((go_at_call 225; exact Calls.quiet_of (hid.out _ |>.mono fun e w' ⟨nd, he, hw⟩ => ⟨he, nd, hw⟩)))
      go_wp2_with fail
      go_ret
      exact ⟨by rw [hbi.out]; rfl, pw_below_drewN HY.out.below _⟩
    · go_upto_region 5 with fail
      go_quiet ((go_at_call 225; exact Calls.quiet_of (hid.out _ |>.mono fun e w' ⟨nd, he, hw⟩ => ⟨he, nd, hw⟩)))
      go_wp2_with fail
      go_ret
      exact ⟨by rw [hbi.out]; rfl, pw_below_drewN HY.out.below _⟩
end Go.Proofs.YtgjddnaidjbhlaaGreatDoor.PhCd

/- codec.Note, out of what may says (P19): walked by hand. -/
namespace Go.Proofs.YtgjddnaidjbhlaaGreatDoor.PhCd
open Go.RowKit Go.IntWalk Go.Proofs.YtgjddnaidjbhlaaGreatDoor.B Go.Proofs.YtgjddnaidjbhlaaGreatDoorW.PrintWords Go.Proofs.YtgjddnaidjbhlaaGreatDoorW.PrintLast Go.Proofs.YtgjddnaidjbhlaaGreatDoorW.PrintMore Go.Proofs.YtgjddnaidjbhlaaGreatDoor.PlName Go.Proofs.YtgjddnaidjbhlaaGreatDoor.Pl Go.Proofs.YtgjddnaidjbhlaaGreatDoor.Ph

/-- What codec.Note answers, but for its bytes. -/
def Told (w w' : World) (e : Ending) (mb : Bool) : Prop := (∃ s ce, e = .returned (.tuple #[.string s, .int .i64 ce]) ∧ (ce != 0) = !mb) ∧ Below w.heap.size w w'
set_option maxHeartbeats 4000000 in
set_option maxRecDepth 100000 in
theorem written_calls {w : World} {g : Nat} (kind inst step state part cause : Int) (key name : ByteArray) (version : Int) (text : ByteArray) (mb : Bool) (hg : w.heap[g]? = some (.cells #[.int .i64 kind, .int .i64 inst, .int .i64 step, .int .i64 state, .int .i64 part, .int .i64 cause, .string key, .string name, .int .i64 version, .string text] 137 (0, 0)))
 (hmay : Calls Tryz.prog 221 #[.pointer (some ⟨g, 0, none⟩)] w fun e w' => e = .returned (.bool mb) ∧ Below w.heap.size w w') (hf : mb = true → Fits ⟨kind, inst, step, state, part, cause, key, name, version, text⟩) :
 Calls Tryz.prog 126 #[.iface 139 (.pointer (some ⟨g, 0, none⟩)), .string ⟨#[78]⟩] w fun e w' => Told w w' e mb := by
 have HG := Aside0.mk (And.intro hg hf)
 have HM := Aside0.mk hmay
 clear hg hf hmay
 cases mb
 · go_enter Tryz.func126, Tryz.ntmps126
   go_wp2_with (go_at_call 221; refine HM.out.mono ?_; rintro e w1 ⟨rfl, hb⟩; have HB := Aside0.mk hb; clear hb)
   go_returns
   exact ⟨⟨_, _, rfl, rfl⟩, HB.out⟩
 · go_enter Tryz.func126, Tryz.ntmps126
   go_wp2_with (go_at_call 221; refine HM.out.mono ?_; rintro e w1 ⟨rfl, hb⟩; have HB := Aside0.mk hb; clear hb)
   have hw : Wr w (w1.alloc (.cells #[.bool true, .string ⟨#[78]⟩, .int .i64 0] 163)) w1.heap.size 1 := ⟨_, alloc1 w1 _, by decide, HB.out.size, on_ HB.out (below_one _ _)⟩
   refine (fields_calls kind inst step state part cause key name version text (HG.out.2 (by first | rfl | trivial)) HG.out.1 hw).mono ?_
   rintro e w2 ⟨rfl, t, ht1, ht2, ht3, ht4⟩
   have h1 := row_cell (j := 1) ht1 rfl
   have HW := Aside0.mk ht4
   clear ht1 ht2 ht3 ht4 hw
   go_wp2
   go_returns
   exact ⟨⟨_, _, rfl, rfl⟩, HW.out⟩
set_option maxHeartbeats 4000000 in
set_option maxRecDepth 100000 in
theorem note_of (kind inst step state part cause : Int) (key name : ByteArray) (version : Int) (text : ByteArray) (mb : Bool)
 (hmay : ∀ (W : World) (g : Nat), W.heap[g]? = some (.cells #[.int .i64 kind, .int .i64 inst, .int .i64 step, .int .i64 state, .int .i64 part, .int .i64 cause, .string key, .string name, .int .i64 version, .string text] 137 (0, 0)) → Calls Tryz.prog 221 #[.pointer (some ⟨g, 0, none⟩)] W fun e w' => e = .returned (.bool mb) ∧ Below W.heap.size W w') (hf : mb = true → Fits ⟨kind, inst, step, state, part, cause, key, name, version, text⟩) (U : World) :
 Calls Tryz.prog 60 #[.agg #[.int .i64 kind, .int .i64 inst, .int .i64 step, .int .i64 state, .int .i64 part, .int .i64 cause, .string key, .string name, .int .i64 version, .string text]] U fun e U' => Told U U' e mb := by
 have hwr := Aside0.mk (fun (W : World) (g : Nat) (hg : W.heap[g]? = some (.cells #[.int .i64 kind, .int .i64 inst, .int .i64 step, .int .i64 state, .int .i64 part, .int .i64 cause, .string key, .string name, .int .i64 version, .string text] 137 (0, 0))) => written_calls kind inst step state part cause key name version text mb hg (hmay W g hg) hf)
 clear hmay hf
 go_enter Tryz.func60, Tryz.ntmps60
 go_upto_region 2 with fail
 have b1 := below_one U (.cells #[.int .i64 kind, .int .i64 inst, .int .i64 step, .int .i64 state, .int .i64 part, .int .i64 cause, .string key, .string name, .int .i64 version, .string text] 37)
 have s1 : (U.alloc (.cells #[.int .i64 kind, .int .i64 inst, .int .i64 step, .int .i64 state, .int .i64 part, .int .i64 cause, .string key, .string name, .int .i64 version, .string text] 37)).heap.size = U.heap.size + 1 := by
  show (U.heap.push _).size = _
  simp
 generalize World.alloc U _ = U1 at *
 have b2 := below_one U1 (.cells #[.int .i64 kind, .int .i64 inst, .int .i64 step, .int .i64 state, .int .i64 part, .int .i64 cause, .string key, .string name, .int .i64 version, .string text] 137)
 have r2 := alloc1 U1 (.cells #[.int .i64 kind, .int .i64 inst, .int .i64 step, .int .i64 state, .int .i64 part, .int .i64 cause, .string key, .string name, .int .i64 version, .string text] 137)
 rw [s1] at r2
 generalize World.alloc U1 _ = U2 at *
 have HB := Aside0.mk (And.intro (on_ b1 b2) r2)
 clear b1 b2 r2 s1
 go_wp2_with (go_at_call 126; refine (hwr.out _ _ HB.out.2).mono ?_; rintro e w1 ⟨⟨s, ce, rfl, hce⟩, hb⟩; have HT := Aside0.mk (And.intro hce hb); clear hce hb)
 go_returns
 exact ⟨⟨s, ce, rfl, HT.out.1⟩, on_ HB.out.1 HT.out.2⟩
end Go.Proofs.YtgjddnaidjbhlaaGreatDoor.PhCd

/- phase.Valid, Closed (P19): walked by hand. -/
namespace Go.Proofs.YtgjddnaidjbhlaaGreatDoor.Ph
open Go.RowKit Go.IntWalk Go.Proofs.YtgjddnaidjbhlaaGreatDoorW.PrintWords Go.Proofs.YtgjddnaidjbhlaaGreatDoorW.PrintLast Go.Proofs.YtgjddnaidjbhlaaGreatDoorW.PrintMore Go.Proofs.YtgjddnaidjbhlaaGreatDoor.PlName Go.Proofs.YtgjddnaidjbhlaaGreatDoor.Pl

set_option maxHeartbeats 16000000 in
set_option maxRecDepth 100000 in
theorem valid_calls (nm : ByteArray) (l : List Step) (A : Option Addr) (c : Nat) (x : Inst) (B : Option Addr) (cb : Nat) (w : World) (hnm : nm.size ≤ 140737488351232) (hxk : x.key.size ≤ 140737488351232) (hS : StepsAt w A l) (hb : ∀ s ∈ l, StepB s) (hn : l.length ≤ 9000000000000) (hc : l.length ≤ c) (hT : TabsAt w) (hB : Kd.C (Kd.int .i64) w B x.steps.length x.steps) (hxs : x.steps.length ≤ 17592186044416) :
 Calls Tryz.prog 24 #[.agg #[.string nm, .slice A l.length c], .agg #[.int .i64 x.id, .string x.key, .string x.name, .int .i64 x.version, .int .i64 x.phase, .int .i64 x.cause, .slice B x.steps.length cb, .int .i64 (x.freed 0), .int .i64 (x.freed 1), .int .i64 (x.freed 2), .int .i64 (x.freed 3)]] w fun e w' => e = .returned (.bool (sortL nm l x != 0)) ∧ Below w.heap.size w w' := by
 have HV := Aside0.mk (Dx.start nm l A c x B cb w)
 have hso := Aside0.mk (fun W (h : Below w.heap.size w W) => sort_calls nm l A c x B cb W hnm hxk (hS.below h) hb hn hc (tabs_on hT h) (Kd.C_below hB h) hxs)
 clear hnm hxk hS hb hn hT hB hxs
 generalize sortL nm l x = so at *
 go_enter Tryz.func24, Tryz.ntmps24
 go_wp2_with (first | (go_at_call 52; refine (hso.out _ HV.out.below).mono ?_; rintro e w1 ⟨rfl, hb1⟩; have H1 := Aside0.mk (HV.out.on hb1); clear hb1))
 go_ret
 exact ⟨rfl, H1.out.below⟩
set_option maxHeartbeats 16000000 in
set_option maxRecDepth 100000 in
theorem closed_calls (x : Inst) (B : Option Addr) (cb : Nat) (w : World) :
 Calls Tryz.prog 28 #[.agg #[.int .i64 x.id, .string x.key, .string x.name, .int .i64 x.version, .int .i64 x.phase, .int .i64 x.cause, .slice B x.steps.length cb, .int .i64 (x.freed 0), .int .i64 (x.freed 1), .int .i64 (x.freed 2), .int .i64 (x.freed 3)]] w fun e w' => e = .returned (.bool (closedL x)) ∧ Below w.heap.size w w' := by
 have HV := Aside0.mk (And.intro (below_one w (.cells #[.int .i64 x.id, .string x.key, .string x.name, .int .i64 x.version, .int .i64 x.phase, .int .i64 x.cause, .slice B x.steps.length cb, .int .i64 (x.freed 0), .int .i64 (x.freed 1), .int .i64 (x.freed 2), .int .i64 (x.freed 3)] 28)) (alloc1 w (.cells #[.int .i64 x.id, .string x.key, .string x.name, .int .i64 x.version, .int .i64 x.phase, .int .i64 x.cause, .slice B x.steps.length cb, .int .i64 (x.freed 0), .int .i64 (x.freed 1), .int .i64 (x.freed 2), .int .i64 (x.freed 3)] 28)))
 have hov := Aside0.mk (fun W => over_calls ByteArray.empty [] none 0 x B cb W)
 have HF : Aside0 (closedL x = (overL x && ((x.steps.length : Int) == 0))) := ⟨by
  unfold closedL
  congr 1
  rw [Bool.eq_iff_iff, decide_eq_true_eq, beq_iff_eq]
  omega⟩
 generalize closedL x = rr at *
 generalize overL x = ov at *
 go_enter Tryz.func28, Tryz.ntmps28
 cases ov
 all_goals
  go_wp2_with (first | (go_at_call 58; refine (hov.out _).mono ?_; rintro e w1 ⟨rfl, hb1⟩; have H1 := Aside0.mk (And.intro (on_ HV.out.1 hb1) (row_on hb1 HV.out.2)); have hq6 := row_cell (j := 6) H1.out.2 rfl; clear hb1))
  go_ret
  exact ⟨by rw [HF.out]; rfl, H1.out.1⟩
end Go.Proofs.YtgjddnaidjbhlaaGreatDoor.Ph

/- odysseylaw19.live's definition and instances: what they are (plain). -/
namespace Go.Proofs.YtgjddnaidjbhlaaGreatDoor.Ph
open Go.RowKit Go.Proofs.YtgjddnaidjbhlaaGreatDoorW.PrintWords Go.Proofs.YtgjddnaidjbhlaaGreatDoor.PlName Go.Proofs.YtgjddnaidjbhlaaGreatDoor.Pl

def lvN : ByteArray := ⟨#[97]⟩
def lvK : ByteArray := ⟨#[107]⟩
def lvL : List Step := [⟨⟨#[98]⟩, 1, 0, [], []⟩, ⟨⟨#[112]⟩, 2, 1, [], []⟩]
def lvX : Inst := ⟨1, lvK, lvN, 1, 1, 0, [0, 0], fun _ => 0⟩
def lvY : Inst := ⟨1, lvK, lvN, 1, 1, 0, [1, 0], fun _ => 0⟩
theorem lv_alone0 : aloneOk lvL 0 (stepAt lvL 0) = true := by kernel_rfl
theorem lv_alone1 : aloneOk lvL 1 (stepAt lvL 1) = true := by kernel_rfl
theorem lv_alone : ∀ i, i < 2 → aloneOk lvL i (stepAt lvL i) = true := by
 intro i hi
 match i, hi with
 | 0, _ => exact lv_alone0
 | 1, _ => exact lv_alone1
theorem lv_reach {k x : Nat} (h : Pl.Reach lvL k x) : False := by
 have hn : ∀ k : Nat, (stepAt lvL k).needs = [] := fun k => by
  match k with
  | 0 => rfl
  | 1 => rfl
  | k + 2 => rfl
 induction h with
 | one h => rw [hn] at h; cases h
 | more h _ _ => rw [hn] at h; cases h
theorem lvOk : defOk lvN lvL = true := by
 unfold defOk
 rw [show Nm.isName lvN = true by kernel_rfl, all_range (n := lvL.length) (p := fun i => aloneOk lvL i (stepAt lvL i)) lv_alone, allOf_true (p := fun i => decide (1 < pivots lvL (i + 1))) (n := lvL.length), allOf_true (p := ordersBad lvL) (n := lvL.length), allOf_true (p := ringAt lvL) (n := lvL.length), allOf_true (p := lacksHeld lvL (heldF lvL)) (n := lvL.length)]
 · rfl
 · intro j hj
   match j, hj with
   | 0, _ => rfl
   | 1, _ => rfl
 · intro j hj
   exact ringAt_eq (b := false) ⟨fun h => (by cases h), fun h => (lv_reach h).elim⟩
 · intro j hj
   match j, hj with
   | 0, _ => rfl
   | 1, _ => rfl
 · intro j hj
   match j, hj with
   | 0, _ => rfl
   | 1, _ => rfl
theorem lv_head (s : List Int) : headOk lvN lvL ⟨1, lvK, lvN, 1, 1, 0, s, fun _ => 0⟩ = true := by
 unfold headOk
 rw [lvOk, show Nm.isName lvK = true by kernel_rfl]
 show (true && (decide ((1 : Int) ≤ 1) && (decide ((1 : Int) ≤ 60) && (true && (lvN.toList == lvN.toList && (decide ((1 : Int) ≤ 1) && decide ((1 : Int) ≤ 16))))))) = true
 rw [beq_self_eq_true]
 rfl
theorem lv_startOk : startOk lvN lvL 1 lvK 1 = true := by
 unfold startOk
 rw [lvOk, show Nm.isName lvK = true by kernel_rfl]
 rfl
theorem lv_sortX : sortL lvN lvL lvX = 1 := by
 unfold sortL
 rw [show headOk lvN lvL lvX = true from lv_head _]
 rfl
theorem lv_sortY : sortL lvN lvL lvY = 1 := by
 unfold sortL
 rw [show headOk lvN lvL lvY = true from lv_head _]
 rfl
theorem lv_ready : readyL lvN lvL [0, 0] = [0] := by
 unfold readyL
 rw [lvOk]
 rfl
theorem lv_next : nextL lvN lvL lvX = [issueOf lvX 0] := by
 unfold nextL readyN
 rw [lv_sortX, show lvX.steps = [0, 0] from rfl, lv_ready]
 rfl
theorem lv_on : onX lvN lvL lvX (issueOf lvX 0) = some lvY := by
 show issueX lvN lvL lvX 0 = some lvY
 unfold issueX
 rw [show lvX.steps = [0, 0] from rfl, lv_ready]
 rfl
theorem lv_wants : wantsL lvN lvL lvY = [⟨1, 0, 1, 0, 1, []⟩] := by
 unfold wantsL
 rw [lv_sortY]
 rfl
theorem lv_notes : (notesL lvN lvL lvY).length = 1 := by
 unfold notesL
 rw [lv_sortY]
 rfl
theorem lv_bounds : ∀ s ∈ lvL, StepB s := by
 intro s hs
 have : s = stepAt lvL 0 ∨ s = stepAt lvL 1 := by
  simpa [lvL, stepAt] using hs
 rcases this with rfl | rfl <;> (unfold StepB; decide)
end Go.Proofs.YtgjddnaidjbhlaaGreatDoor.Ph

/- phase.Start, of what may be (P19): walked by hand. -/
namespace Go.Proofs.YtgjddnaidjbhlaaGreatDoor.Ph
open Go.RowKit Go.IntWalk Go.Proofs.YtgjddnaidjbhlaaGreatDoorW.PrintWords Go.Proofs.YtgjddnaidjbhlaaGreatDoorW.PrintLast Go.Proofs.YtgjddnaidjbhlaaGreatDoorW.PrintMore Go.Proofs.YtgjddnaidjbhlaaGreatDoor.PlName Go.Proofs.YtgjddnaidjbhlaaGreatDoor.Pl
attribute [local go_sem ↓] Go.wp_at_zero Go.wp_at_succ

theorem own_zero (W : World) {lo n : Nat} (h : lo ≤ W.heap.size) (hn : n ≤ 9000000) : OwnI (W.alloc (.cells (madeCells #[.int .i64 0] n) 3)) lo (.slice (some ⟨W.heap.size, 0, none⟩) n n) (List.replicate n 0) := by
 have h1 : (madeCells #[.int .i64 0] n).toList = List.replicate n (.int .i64 0) := toList_madeCells_one _ _
 have h2 := World.ownsRow_lit (base := lo) W (madeCells #[.int .i64 0] n) n (e := 3) (size := 1) h (by unfold maxLen; omega) (by rw [← Array.length_toList, h1, List.length_replicate, Nat.mul_one])
 rw [h1] at h2
 unfold OwnI
 rw [List.length_replicate]
 unfold encs
 rw [List.map_replicate]
 exact h2
/-- The worlds of Start, behind its instance. -/
structure Sx (w W : World) (nm : ByteArray) (l : List Step) (A : Option Addr) (c : Nat) (x : Inst) (g bs n : Nat) : Prop where
 sw : Sw w W nm l A c
 xbox : W.heap[g]? = some (.cells #[.int .i64 x.id, .string x.key, .string x.name, .int .i64 x.version, .int .i64 x.phase, .int .i64 x.cause, .slice (some ⟨bs, 0, none⟩) n n, .int .i64 (x.freed 0), .int .i64 (x.freed 1), .int .i64 (x.freed 2), .int .i64 (x.freed 3)] 28 (0, 0))
 lo : w.heap.size + 1 < g
 own : OwnI W w.heap.size (.slice (some ⟨bs, 0, none⟩) n n) x.steps
 apart : bs ≠ g ∧ bs ≠ w.heap.size + 1
section
variable {w W W2 : World} {nm : ByteArray} {l : List Step} {A : Option Addr} {c : Nat} {x : Inst} {g bs n : Nat}
theorem Sx.on (h : Sx w W nm l A c x g bs n) (hb : Below W.heap.size W W2) : Sx w W2 nm l A c x g bs n := ⟨h.sw.on hb, row_on hb h.xbox, h.lo, own_on h.own hb, h.apart⟩
theorem Sx.cells (h : Sx w W nm l A c x g bs n) : W.cell? ⟨w.heap.size, 0, none⟩ = some (.string nm) ∧ W.cell? ⟨w.heap.size, 1, none⟩ = some (.slice A l.length c) ∧ W.cell? ⟨g, 0, none⟩ = some (.int .i64 x.id) ∧ W.cell? ⟨g, 1, none⟩ = some (.string x.key) ∧ W.cell? ⟨g, 2, none⟩ = some (.string x.name) ∧ W.cell? ⟨g, 3, none⟩ = some (.int .i64 x.version) ∧ W.cell? ⟨g, 4, none⟩ = some (.int .i64 x.phase) ∧ W.cell? ⟨g, 5, none⟩ = some (.int .i64 x.cause) ∧ W.cell? ⟨g, 6, none⟩ = some (.slice (some ⟨bs, 0, none⟩) n n) ∧ W.cell? ⟨g, 7, none⟩ = some (.int .i64 (x.freed 0)) ∧ W.cell? ⟨g, 8, none⟩ = some (.int .i64 (x.freed 1)) ∧ W.cell? ⟨g, 9, none⟩ = some (.int .i64 (x.freed 2)) ∧ W.cell? ⟨g, 10, none⟩ = some (.int .i64 (x.freed 3)) := by
 obtain ⟨h0, h1, _⟩ := h.sw.cells
 exact ⟨h0, h1, row_cell h.xbox rfl, row_cell h.xbox rfl, row_cell h.xbox rfl, row_cell h.xbox rfl, row_cell h.xbox rfl, row_cell h.xbox rfl, row_cell h.xbox rfl, row_cell h.xbox rfl, row_cell h.xbox rfl, row_cell h.xbox rfl, row_cell h.xbox rfl⟩
theorem Sx.free (h : Sx w W nm l A c x g bs n) (j : Nat) : W.frozen? ⟨g, j, none⟩ = false := free_of_row h.xbox
theorem Sx.rfree (h : Sx w W nm l A c x g bs n) (j : Nat) : W.frozen? ⟨w.heap.size + 1, j, none⟩ = false := free_of_row h.sw.rbox
theorem Sx.rcells (h : Sx w W nm l A c x g bs n) : W.cell? ⟨w.heap.size + 1, 0, none⟩ = some (.int .i64 0) ∧ W.cell? ⟨w.heap.size + 1, 1, none⟩ = some (.string ByteArray.empty) ∧ W.cell? ⟨w.heap.size + 1, 2, none⟩ = some (.string ByteArray.empty) ∧ W.cell? ⟨w.heap.size + 1, 3, none⟩ = some (.int .i64 0) ∧ W.cell? ⟨w.heap.size + 1, 4, none⟩ = some (.int .i64 0) ∧ W.cell? ⟨w.heap.size + 1, 5, none⟩ = some (.int .i64 0) ∧ W.cell? ⟨w.heap.size + 1, 6, none⟩ = some (.slice none 0 0) ∧ W.cell? ⟨w.heap.size + 1, 7, none⟩ = some (.int .i64 0) ∧ W.cell? ⟨w.heap.size + 1, 8, none⟩ = some (.int .i64 0) ∧ W.cell? ⟨w.heap.size + 1, 9, none⟩ = some (.int .i64 0) ∧ W.cell? ⟨w.heap.size + 1, 10, none⟩ = some (.int .i64 0) := ⟨row_cell h.sw.rbox rfl, row_cell h.sw.rbox rfl, row_cell h.sw.rbox rfl, row_cell h.sw.rbox rfl, row_cell h.sw.rbox rfl, row_cell h.sw.rbox rfl, row_cell h.sw.rbox rfl, row_cell h.sw.rbox rfl, row_cell h.sw.rbox rfl, row_cell h.sw.rbox rfl, row_cell h.sw.rbox rfl⟩
theorem Sx.setPh (h : Sx w W nm l A c x g bs n) (q : Int) : Sx w (W.setCell ⟨g, 4, none⟩ (.int .i64 q)) nm l A c (phX x q) g bs n := by
 have hd : w.heap.size ≠ g := by have := h.lo; omega
 have hr : w.heap.size + 1 ≠ g := by have := h.lo; omega
 have hlo : w.heap.size ≤ g := by have := h.lo; omega
 exact ⟨⟨h.sw.below.setCell (p := ⟨g, 4, none⟩) hlo _, row_setCell_ne h.sw.dbox _ _ hd, row_setCell_ne h.sw.rbox _ _ hr⟩, by rw [row_setCell h.xbox]; simp [phX], h.lo, own_ne h.own (fun b e => by cases e; exact h.apart.1), h.apart⟩
theorem Sx.filled (h : Sx w W nm l A c x g bs n) (v0 v1 v2 v3 v4 v5 v6 v7 v8 v9 v10 : Value) : OwnI (((((((((((W.setCell ⟨w.heap.size + 1, 0, none⟩ v0).setCell ⟨w.heap.size + 1, 1, none⟩ v1).setCell ⟨w.heap.size + 1, 2, none⟩ v2).setCell ⟨w.heap.size + 1, 3, none⟩ v3).setCell ⟨w.heap.size + 1, 4, none⟩ v4).setCell ⟨w.heap.size + 1, 5, none⟩ v5).setCell ⟨w.heap.size + 1, 6, none⟩ v6).setCell ⟨w.heap.size + 1, 7, none⟩ v7).setCell ⟨w.heap.size + 1, 8, none⟩ v8).setCell ⟨w.heap.size + 1, 9, none⟩ v9).setCell ⟨w.heap.size + 1, 10, none⟩ v10) w.heap.size (.slice (some ⟨bs, 0, none⟩) n n) x.steps := by
 have s : ∀ (U : World) (j : Nat) (v : Value), OwnI U w.heap.size (.slice (some ⟨bs, 0, none⟩) n n) x.steps → OwnI (U.setCell ⟨w.heap.size + 1, j, none⟩ v) w.heap.size (.slice (some ⟨bs, 0, none⟩) n n) x.steps := fun U j v h2 => own_ne h2 (fun b e => by cases e; exact h.apart.2)
 exact s _ _ _ (s _ _ _ (s _ _ _ (s _ _ _ (s _ _ _ (s _ _ _ (s _ _ _ (s _ _ _ (s _ _ _ (s _ _ _ (s _ _ _ h.own))))))))))
end
set_option maxHeartbeats 16000000 in
set_option maxRecDepth 100000 in
theorem start_yes (nm : ByteArray) (l : List Step) (A : Option Addr) (c : Nat) (id : Int) (key : ByteArray) (version : Int) (w : World) (hnm : nm.size ≤ 140737488351232) (hk : key.size ≤ 140737488351232) (hS : StepsAt w A l) (hb : ∀ s ∈ l, StepB s) (hn : l.length ≤ 9000000000000) (hc : l.length ≤ c) (hT : TabsAt w) (hyes : startOk nm l id key version = true) :
 Calls Tryz.prog 12 #[.agg #[.string nm, .slice A l.length c], .int .i64 id, .string key, .int .i64 version] w fun e w' => (∃ v, e = .returned (.tuple #[instV (startX nm l id key version) v, .int .i64 0]) ∧ OwnI w' w.heap.size v (List.replicate l.length 0)) ∧ Below w.heap.size w w' := by
 have HS0 : Aside0 (Sw w ((w.alloc (.cells #[.string nm, .slice A l.length c] 24)).alloc (.cells #[.int .i64 0, .string ByteArray.empty, .string ByteArray.empty, .int .i64 0, .int .i64 0, .int .i64 0, .slice none 0 0, .int .i64 0, .int .i64 0, .int .i64 0, .int .i64 0] 28)) nm l A c) := ⟨on_ (below_one _ _) (below_one _ _), row_on (below_one _ _) (alloc1 w _), alloc_two w _ _⟩
 have hck := Aside0.mk (fun W (h : Below w.heap.size w W) => check_calls nm l A c W hnm (hS.below h) hb (by omega) hc (tabs_on hT h))
 have his : Aside0 (∀ W, Calls Tryz.prog 32 #[.string key] W fun e w' => e = .returned (.bool (Nm.isName key)) ∧ Below W.heap.size W w') := ⟨fun W => NameWalk.is_calls _ W (by omega)⟩
 unfold startOk at hyes
 simp only [Bool.and_eq_true] at hyes
 obtain ⟨e1, e2, e3, e4, e5, e6⟩ := hyes
 have hl8 := (defOk_len e1).2.1
 have hl1 := (defOk_len e1).1
 have hi1 : decide (id < 1) = false := by rw [lt_one, e2]; rfl
 have hi2 : decide (60 < id) = false := by rw [gt_of, e3]; rfl
 have hv1 : decide (version < 1) = false := by rw [lt_one, e5]; rfl
 have hv2 : decide (16 < version) = false := by rw [gt_of, e6]; rfl
 rw [e1] at hck
 rw [e4] at his
 have HA := Aside0.mk hS
 clear e1 e2 e3 e4 e5 e6 hnm hk hS hb hT
 obtain ⟨i3, hi3, hz3, hs3, hb3⟩ := info_parts int_info
 have HI := Aside0.mk (And.intro hi3 (And.intro hz3 (And.intro hs3 hb3)))
 have hmk : ∀ W, (Instr.makeSlice 25 (.int .i64 (l.length : Int)) (.int .i64 (l.length : Int))).run Tryz.prog W = .ok (.slice (some ⟨W.heap.size, 0, none⟩) l.length l.length) (W.alloc (.cells (madeCells #[.int .i64 0] l.length) 3)) := fun W => by
  have hr := run_make (P := Tryz.prog) W 25 3 i3 (.int .i64 0) Tryz.underlying25 hi3 hz3 .i64 .i64 l.length l.length (by omega) (Int.le_refl _) (by rw [hb3]; omega) (by omega)
  simp only [Int.toNat_natCast, hs3, Nat.mul_one] at hr
  exact hr
 clear hi3 hz3 hs3 hb3
 go_enter Tryz.func12, Tryz.ntmps12
 go_wp2_with (first | (go_at_call 31; refine (hck.out _ HS0.out.below).mono ?_; rintro e w1 ⟨⟨xa, xb, rfl, hxb⟩, hb1⟩; have hd1 : (xb != 0) = false := (by rw [bne, hxb]; rfl); have H1 := Aside0.mk (HS0.out.on hb1); clear hxb hb1; obtain ⟨hq0, hq1, hqf, hqr0, hqr1, hqr2, hqr3, hqr4, hqr5, hqr6, hqr7, hqr8, hqr9, hqr10⟩ := H1.out.cells) | (go_at_call 32; refine (his.out _).mono ?_; rintro e w2 ⟨rfl, hb2⟩; have H2 := Aside0.mk (H1.out.on hb2); clear hb2; obtain ⟨hr0, hr1, hrf, hrr0, hrr1, hrr2, hrr3, hrr4, hrr5, hrr6, hrr7, hrr8, hrr9, hrr10⟩ := H2.out.cells))
 clear hd1
 go_cut [12] (fun v12 wc => ∃ g bs, v12 = .pointer (some ⟨g, 0, none⟩) ∧ Sx w wc nm l A c ⟨id, key, nm, version, 1, 0, List.replicate l.length 0, fun _ => 0⟩ g bs l.length)
 case first =>
  go_region_held3 (fun w' => w'.cell? ⟨w.heap.size, 0, none⟩ = some (.string nm) ∧ w'.cell? ⟨w.heap.size, 1, none⟩ = some (.slice A l.length c)) (first | go_keep) (first | fail)
  · go_wp2_with fail
    go_meet
    have hlt := (Array.getElem?_eq_some_iff.1 H2.out.rbox).1
    refine ⟨_, _, rfl, ((?_ : Sx w _ nm l A c ⟨id, key, nm, version, 1, 0, List.replicate l.length 0, fun _ => 0⟩ (w2.heap.size + 1) w2.heap.size l.length).on (below_drew (Below.refl _ _)))⟩
    exact ⟨H2.out.on (on_ (below_one _ _) (below_one _ _)), alloc_two w2 _ _, by omega, own_on (own_zero w2 (by omega) (by omega)) (below_one _ _), ⟨by omega, by omega⟩⟩
  · go_wp2_with fail
    go_meet
    have hlt := (Array.getElem?_eq_some_iff.1 H2.out.rbox).1
    refine ⟨_, _, rfl, ((?_ : Sx w _ nm l A c ⟨id, key, nm, version, 1, 0, List.replicate l.length 0, fun _ => 0⟩ w2.heap.size (w2.heap.size + 1) l.length).on (below_drew (Below.refl _ _)))⟩
    have hsz : (w2.alloc (.cells #[.int .i64 id, .string key, .string nm, .int .i64 version, .int .i64 1, .int .i64 0, .slice (some ⟨w2.heap.size + 1, 0, none⟩) l.length l.length, .int .i64 0, .int .i64 0, .int .i64 0, .int .i64 0] 28)).heap.size = w2.heap.size + 1 := by
     show (w2.heap.push _).size = _
     simp
    have ho := own_zero (lo := w.heap.size) (n := l.length) (w2.alloc (.cells #[.int .i64 id, .string key, .string nm, .int .i64 version, .int .i64 1, .int .i64 0, .slice (some ⟨w2.heap.size + 1, 0, none⟩) l.length l.length, .int .i64 0, .int .i64 0, .int .i64 0, .int .i64 0] 28)) (by omega) (by omega)
    rw [hsz] at ho
    exact ⟨H2.out.on (on_ (below_one _ _) (below_one _ _)), row_on (below_one _ _) (alloc1 w2 _), hlt, ho, ⟨by omega, by omega⟩⟩
 case rest =>
  obtain ⟨g, bs, rfl, hX⟩ := hcut
  have HX := Aside0.mk hX
  clear H1 H2 HS0 hq0 hq1 hqf hqr0 hqr1 hqr2 hqr3 hqr4 hqr5 hqr6 hqr7 hqr8 hqr9 hqr10 hr0 hr1 hrf hrr0 hrr1 hrr2 hrr3 hrr4 hrr5 hrr6 hrr7 hrr8 hrr9 hrr10 hck his hmk
  obtain ⟨hd0, hd1, hx0, hx1, hx2, hx3, hx4, hx5, hx6, hx7, hx8, hx9, hx10⟩ := hX.cells
  have hki := Aside0.mk (fun W (h : Below w.heap.size w W) => (by
   have := kinds_calls nm l A c ⟨id, key, nm, version, 1, 0, List.replicate l.length 0, fun _ => 0⟩ (some ⟨bs, 0, none⟩) l.length 3 W (HA.out.below h) hl8
   rw [List.length_replicate] at this
   exact this : Calls Tryz.prog 33 #[.agg #[.string nm, .slice A l.length c, .int .i64 id, .string key, .string nm, .int .i64 version, .int .i64 1, .int .i64 0, .slice (some ⟨bs, 0, none⟩) l.length l.length, .int .i64 0, .int .i64 0, .int .i64 0, .int .i64 0], .int .i64 3] W fun e w' => e = .returned (.int .i64 (kindsL l 3 : Nat)) ∧ Below W.heap.size W w'))
  clear hX
  go_wp2_with fail
  go_cut [59] (fun v59 wc => v59 = .bool (((kindsL l 3 : Nat) : Int) == (l.length : Int)) ∧ Sx w wc nm l A c ⟨id, key, nm, version, 1, 0, List.replicate l.length 0, fun _ => 0⟩ g bs l.length)
  case first =>
   go_region_held3 (fun w' => w'.cell? ⟨w.heap.size, 0, none⟩ = some (.string nm) ∧ w'.cell? ⟨w.heap.size, 1, none⟩ = some (.slice A l.length c) ∧ w'.cell? ⟨g, 0, none⟩ = some (.int .i64 id) ∧ w'.cell? ⟨g, 1, none⟩ = some (.string key) ∧ w'.cell? ⟨g, 2, none⟩ = some (.string nm) ∧ w'.cell? ⟨g, 3, none⟩ = some (.int .i64 version) ∧ w'.cell? ⟨g, 4, none⟩ = some (.int .i64 1) ∧ w'.cell? ⟨g, 5, none⟩ = some (.int .i64 0) ∧ w'.cell? ⟨g, 6, none⟩ = some (.slice (some ⟨bs, 0, none⟩) l.length l.length) ∧ w'.cell? ⟨g, 7, none⟩ = some (.int .i64 0) ∧ w'.cell? ⟨g, 8, none⟩ = some (.int .i64 0) ∧ w'.cell? ⟨g, 9, none⟩ = some (.int .i64 0) ∧ w'.cell? ⟨g, 10, none⟩ = some (.int .i64 0)) (first | go_keep | exact H3.out.cells) (first | (go_at_call 33; refine (hki.out _ (by first | exact HX.out.sw.below | exact below_drew HX.out.sw.below)).mono ?_; rintro e w3 ⟨rfl, hb3⟩; have H3 : Aside0 (Sx w w3 nm l A c ⟨id, key, nm, version, 1, 0, List.replicate l.length 0, fun _ => 0⟩ g bs l.length) := ⟨by first | exact HX.out.on hb3 | exact (HX.out.on (below_drew (Below.refl _ _))).on hb3⟩))
   all_goals
    go_wp2_with fail
    go_meet
    exact ⟨rfl, by first | exact H3.out | exact H3.out.on (below_drew (Below.refl _ _))⟩
  case rest =>
   clear HX hd0 hd1 hx0 hx1 hx2 hx3 hx4 hx5 hx6 hx7 hx8 hx9 hx10 hki
   obtain ⟨rfl, hX⟩ := hcut
   have HX := Aside0.mk hX
   obtain ⟨hd0, hd1, hx0, hx1, hx2, hx3, hx4, hx5, hx6, hx7, hx8, hx9, hx10⟩ := hX.cells
   obtain ⟨hr0, hr1, hr2, hr3, hr4, hr5, hr6, hr7, hr8, hr9, hr10⟩ := hX.rcells
   have hf4 := hX.free 4
   have hrf := hX.rfree
   have hne := hX.lo
   clear hX
   have HK : (((kindsL l 3 : Nat) : Int) == (l.length : Int)) = (kindsL l 3 == l.length) := by
    rw [Bool.eq_iff_iff, beq_iff_eq, beq_iff_eq]
    omega
   have HP : Aside0 (startX nm l id key version = ⟨id, key, nm, version, if (((kindsL l 3 : Nat) : Int) == (l.length : Int)) = true then 3 else 1, 0, List.replicate l.length 0, fun _ => 0⟩) := ⟨by rw [HK]; rfl⟩
   clear HK
   generalize (((kindsL l 3 : Nat) : Int) == (l.length : Int)) = k3 at *
   cases k3
   · go_wp2_with fail
     have hr := row11 HX.out.sw.rbox (.int .i64 id) (.string key) (.string nm) (.int .i64 version) (.int .i64 1) (.int .i64 0) (.slice (some ⟨bs, 0, none⟩) l.length l.length) (.int .i64 0) (.int .i64 0) (.int .i64 0) (.int .i64 0)
     have hq := HX.out.sw.filled (.int .i64 id) (.string key) (.string nm) (.int .i64 version) (.int .i64 1) (.int .i64 0) (.slice (some ⟨bs, 0, none⟩) l.length l.length) (.int .i64 0) (.int .i64 0) (.int .i64 0) (.int .i64 0)
     have ho := HX.out.filled (.int .i64 id) (.string key) (.string nm) (.int .i64 version) (.int .i64 1) (.int .i64 0) (.slice (some ⟨bs, 0, none⟩) l.length l.length) (.int .i64 0) (.int .i64 0) (.int .i64 0) (.int .i64 0)
     generalize World.setCell _ _ _ = U at hr hq ho ⊢
     refine bodyPost_ret (results_ct rfl _ _ (w.heap.size + 1) 28 _ (0, 0) _ rfl hr Tryz.underlying28 rfl (by kernel_rfl)) rfl ?_
     exact ⟨⟨_, by rw [HP.out]; rfl, ho⟩, hq⟩
   · have HY := Aside0.mk (HX.out.setPh 3)
     go_wp2_with fail
     have hr := row11 HY.out.sw.rbox (.int .i64 id) (.string key) (.string nm) (.int .i64 version) (.int .i64 3) (.int .i64 0) (.slice (some ⟨bs, 0, none⟩) l.length l.length) (.int .i64 0) (.int .i64 0) (.int .i64 0) (.int .i64 0)
     have hq := HY.out.sw.filled (.int .i64 id) (.string key) (.string nm) (.int .i64 version) (.int .i64 3) (.int .i64 0) (.slice (some ⟨bs, 0, none⟩) l.length l.length) (.int .i64 0) (.int .i64 0) (.int .i64 0) (.int .i64 0)
     have ho := HY.out.filled (.int .i64 id) (.string key) (.string nm) (.int .i64 version) (.int .i64 3) (.int .i64 0) (.slice (some ⟨bs, 0, none⟩) l.length l.length) (.int .i64 0) (.int .i64 0) (.int .i64 0) (.int .i64 0)
     generalize World.setCell _ _ _ = U at hr hq ho ⊢
     refine bodyPost_ret (results_ct rfl _ _ (w.heap.size + 1) 28 _ (0, 0) _ rfl hr Tryz.underlying28 rfl (by kernel_rfl)) rfl ?_
     exact ⟨⟨_, by rw [HP.out]; rfl, ho⟩, hq⟩
end Go.Proofs.YtgjddnaidjbhlaaGreatDoor.Ph

/- phase: brief of a view in a box (P19): walked by hand. -/
namespace Go.Proofs.YtgjddnaidjbhlaaGreatDoor.Ph
open Go.RowKit Go.IntWalk Go.Proofs.YtgjddnaidjbhlaaGreatDoorW.PrintWords Go.Proofs.YtgjddnaidjbhlaaGreatDoorW.PrintLast Go.Proofs.YtgjddnaidjbhlaaGreatDoorW.PrintMore Go.Proofs.YtgjddnaidjbhlaaGreatDoor.PlName Go.Proofs.YtgjddnaidjbhlaaGreatDoor.Pl
attribute [local go_sem ↓] Go.wp_at_zero Go.wp_at_succ

theorem Bn.alloc {nm : ByteArray} {l : List Step} {A : Option Addr} {c : Nat} {x : Inst} {B : Option Addr} {cb : Nat} {w W : World} {p g : Nat} {n : Note} (h : Bn w W p nm l A c x B cb g n) (o : Obj) : Bn w (W.alloc o) p nm l A c x B cb g n := h.on (below_one _ _)
theorem own_apart {W : World} {lo gx n cb : Nat} {B : Option Addr} {cur : Array Value} {xs : List Int} (h : OwnI W lo (.slice B n cb) xs) (hr : W.heap[gx]? = some (.cells cur 28 (0, 0))) : ∀ b, B = some b → b.block ≠ gx := by
 rintro b rfl e
 rcases h.2 with ⟨hv, _⟩ | ⟨g, cap, c2, hv, _, hg, _⟩
 · cases hv
 · injection hv with hv _ _
   injection hv with hv
   subst hv
   have e : g = gx := e
   rw [e, hr] at hg
   injection hg with hg
   injection hg with _ hg
   exact absurd hg (by decide)
theorem owI_low {W : World} {lo lo' : Nat} {v : Value} {xs : List Int} (h : OwnI W lo v xs) (hle : lo' ≤ lo) : OwnI W lo' v xs := own_weaken h hle
/-- A block of another kind is written: a view and a note stay. -/
structure Bg (w W : World) (p : Nat) (nm : ByteArray) (l : List Step) (A : Option Addr) (c : Nat) (x : Inst) (B : Option Addr) (cb : Nat) (g : Nat) (n : Note) (gx : Nat) : Prop where
 bn : Bn w W p nm l A c x B cb g n
 np : gx ≠ p
 ng : gx ≠ g
 nb : ∀ b, B = some b → b.block ≠ gx
 lo : w.heap.size ≤ gx
theorem Bn.apart {nm : ByteArray} {l : List Step} {A : Option Addr} {c : Nat} {x : Inst} {B : Option Addr} {cb : Nat} {w W : World} {p g gx : Nat} {n : Note} {cur : Array Value} (h : Bn w W p nm l A c x B cb g n) (hr : W.heap[gx]? = some (.cells cur 28 (0, 0))) (hlo : w.heap.size ≤ gx) : Bg w W p nm l A c x B cb g n gx := by
 refine ⟨h, fun e => ?_, fun e => ?_, own_apart h.bx.own hr, hlo⟩
 · rw [e, h.bx.box] at hr
   injection hr with hr
   injection hr with _ hr
   exact absurd hr (by decide)
 · rw [e, h.nbox] at hr
   injection hr with hr
   injection hr with _ hr
   exact absurd hr (by decide)
theorem Bg.set {nm : ByteArray} {l : List Step} {A : Option Addr} {c : Nat} {x : Inst} {B : Option Addr} {cb : Nat} {w W : World} {p g gx : Nat} {n : Note} (h : Bg w W p nm l A c x B cb g n gx) (j : Nat) (v : Value) : Bg w (W.setCell ⟨gx, j, none⟩ v) p nm l A c x B cb g n gx :=
 ⟨⟨⟨h.bn.bx.below.setCell h.lo _, row_setCell_ne h.bn.bx.box _ _ (Ne.symm h.np), h.bn.bx.lo, own_ne h.bn.bx.own h.nb, h.bn.bx.ne⟩, row_setCell_ne h.bn.nbox _ _ (Ne.symm h.ng), h.bn.ne⟩, h.np, h.ng, h.nb, h.lo⟩
theorem Bg.fill {nm : ByteArray} {l : List Step} {A : Option Addr} {c : Nat} {x : Inst} {B : Option Addr} {cb : Nat} {w W : World} {p g gx : Nat} {n : Note} (h : Bg w W p nm l A c x B cb g n gx) (v0 v1 v2 v3 v4 v5 v6 v7 v8 v9 v10 : Value) : Bg w (((((((((((W.setCell ⟨gx, 0, none⟩ v0).setCell ⟨gx, 1, none⟩ v1).setCell ⟨gx, 2, none⟩ v2).setCell ⟨gx, 3, none⟩ v3).setCell ⟨gx, 4, none⟩ v4).setCell ⟨gx, 5, none⟩ v5).setCell ⟨gx, 6, none⟩ v6).setCell ⟨gx, 7, none⟩ v7).setCell ⟨gx, 8, none⟩ v8).setCell ⟨gx, 9, none⟩ v9).setCell ⟨gx, 10, none⟩ v10) p nm l A c x B cb g n gx :=
 ((((((((((h.set 0 _).set 1 _).set 2 _).set 3 _).set 4 _).set 5 _).set 6 _).set 7 _).set 8 _).set 9 _).set 10 _
theorem own_fillB {W : World} {lo gx n cb : Nat} {B : Option Addr} {xs : List Int} (h : OwnI W lo (.slice B n cb) xs) (hn : ∀ b, B = some b → b.block ≠ gx) (v0 v1 v2 v3 v4 v5 v6 v7 v8 v9 v10 : Value) : OwnI (((((((((((W.setCell ⟨gx, 0, none⟩ v0).setCell ⟨gx, 1, none⟩ v1).setCell ⟨gx, 2, none⟩ v2).setCell ⟨gx, 3, none⟩ v3).setCell ⟨gx, 4, none⟩ v4).setCell ⟨gx, 5, none⟩ v5).setCell ⟨gx, 6, none⟩ v6).setCell ⟨gx, 7, none⟩ v7).setCell ⟨gx, 8, none⟩ v8).setCell ⟨gx, 9, none⟩ v9).setCell ⟨gx, 10, none⟩ v10) lo (.slice B n cb) xs :=
 own_ne (own_ne (own_ne (own_ne (own_ne (own_ne (own_ne (own_ne (own_ne (own_ne (own_ne h hn) hn) hn) hn) hn) hn) hn) hn) hn) hn) hn
/-- What brief has made. -/
structure Bf (w W : World) (p : Nat) (nm : ByteArray) (l : List Step) (A : Option Addr) (c : Nat) (x : Inst) (B : Option Addr) (cb : Nat) (g : Nat) (n : Note) (gx : Nat) (ph0 : Int) (A3 : Option Addr) (c3 : Nat) : Prop where
 bg : Bg w W p nm l A c x B cb g n gx
 row : W.heap[gx]? = some (.cells #[.int .i64 x.id, .string x.key, .string nm, .int .i64 x.version, .int .i64 ph0, .int .i64 0, .slice A3 l.length c3, .int .i64 0, .int .i64 0, .int .i64 0, .int .i64 0] 28 (0, 0))
 own : OwnI W w.heap.size (.slice A3 l.length c3) (List.replicate l.length 0)
theorem Bf.on {nm : ByteArray} {l : List Step} {A : Option Addr} {c : Nat} {x : Inst} {B : Option Addr} {cb : Nat} {w W W2 : World} {p g gx : Nat} {n : Note} {ph0 : Int} {A3 : Option Addr} {c3 : Nat} (h : Bf w W p nm l A c x B cb g n gx ph0 A3 c3) (hb : Below W.heap.size W W2) : Bf w W2 p nm l A c x B cb g n gx ph0 A3 c3 := ⟨⟨h.bg.bn.on hb, h.bg.np, h.bg.ng, h.bg.nb, h.bg.lo⟩, row_on hb h.row, own_on h.own hb⟩
end Go.Proofs.YtgjddnaidjbhlaaGreatDoor.Ph

/- odysseylaw19.live (P19): walked by hand. -/
namespace Go.Proofs.YtgjddnaidjbhlaaGreatDoor.Ph
open Go.RowKit Go.IntWalk Go.Proofs.YtgjddnaidjbhlaaGreatDoorW.PrintWords Go.Proofs.YtgjddnaidjbhlaaGreatDoorW.PrintLast Go.Proofs.YtgjddnaidjbhlaaGreatDoorW.PrintMore Go.Proofs.YtgjddnaidjbhlaaGreatDoor.PlName Go.Proofs.YtgjddnaidjbhlaaGreatDoor.Pl
attribute [local go_sem ↓] Go.wp_at_zero Go.wp_at_succ

theorem lv_row {W : World} {g : Nat} (h : W.heap[g]? = some (.cells #[.string ⟨#[98]⟩, .int .i64 1, .int .i64 0, .slice none 0 0, .slice none 0 0, .string ⟨#[112]⟩, .int .i64 2, .int .i64 1, .slice none 0 0, .slice none 0 0] 70 (0, 0))) : StepsAt W (some ⟨g, 0, none⟩) lvL := by
 intro i x hx
 match i, hx with
 | 0, hx =>
  injection hx with hx
  subst hx
  refine ⟨_, rfl, _, rfl, stepK (Nat.le_refl _) (cnil _ _ none) (Nat.le_refl _) (cnil _ _ none), fun j u hj => ?_⟩
  rw [Addr.add_lit]
  refine row_cell h ?_
  match j, hj with
  | 0, hj | 1, hj | 2, hj | 3, hj | 4, hj => exact hj
 | 1, hx =>
  injection hx with hx
  subst hx
  refine ⟨_, rfl, _, rfl, stepK (Nat.le_refl _) (cnil _ _ none) (Nat.le_refl _) (cnil _ _ none), fun j u hj => ?_⟩
  rw [Addr.add_lit]
  refine row_cell h ?_
  match j, hj with
  | 0, hj | 1, hj | 2, hj | 3, hj | 4, hj => exact hj
/-- The worlds of live: a definition, and an instance of it, in boxes. -/
structure Ll (w W : World) (gd gx : Nat) (ad : Addr) (B : Option Addr) (cb : Nat) (st : List Int) : Prop where
 below : Below w.heap.size w W
 db : w.heap[gd]? = some (.cells #[.string ⟨#[97]⟩, .slice (some ad) 2 2] 24 (0, 0))
 sb : StepsAt w (some ad) lvL
 xbox : W.heap[gx]? = some (.cells #[.int .i64 1, .string ⟨#[107]⟩, .string ⟨#[97]⟩, .int .i64 1, .int .i64 1, .int .i64 0, .slice B 2 cb, .int .i64 0, .int .i64 0, .int .i64 0, .int .i64 0] 28 (0, 0))
 own : OwnI W w.heap.size (.slice B 2 cb) st
 lo : w.heap.size ≤ gx
theorem Ll.dbox {w W : World} {gd gx : Nat} {ad : Addr} {B : Option Addr} {cb : Nat} {st : List Int} (h : Ll w W gd gx ad B cb st) : W.heap[gd]? = some (.cells #[.string ⟨#[97]⟩, .slice (some ad) 2 2] 24 (0, 0)) := row_on h.below h.db
theorem Ll.steps {w W : World} {gd gx : Nat} {ad : Addr} {B : Option Addr} {cb : Nat} {st : List Int} (h : Ll w W gd gx ad B cb st) : StepsAt W (some ad) lvL := h.sb.below h.below
section
variable {w W W2 : World} {gd gx : Nat} {ad : Addr} {B : Option Addr} {cb : Nat} {st : List Int}
theorem Ll.on (h : Ll w W gd gx ad B cb st) (hb : Below W.heap.size W W2) : Ll w W2 gd gx ad B cb st := ⟨on_ h.below hb, h.db, h.sb, row_on hb h.xbox, own_on h.own hb, h.lo⟩
theorem Ll.cells (h : Ll w W gd gx ad B cb st) : W.cell? ⟨gd, 0, none⟩ = some (.string ⟨#[97]⟩) ∧ W.cell? ⟨gd, 1, none⟩ = some (.slice (some ad) 2 2) ∧ W.cell? ⟨gx, 0, none⟩ = some (.int .i64 1) ∧ W.cell? ⟨gx, 1, none⟩ = some (.string ⟨#[107]⟩) ∧ W.cell? ⟨gx, 2, none⟩ = some (.string ⟨#[97]⟩) ∧ W.cell? ⟨gx, 3, none⟩ = some (.int .i64 1) ∧ W.cell? ⟨gx, 4, none⟩ = some (.int .i64 1) ∧ W.cell? ⟨gx, 5, none⟩ = some (.int .i64 0) ∧ W.cell? ⟨gx, 6, none⟩ = some (.slice B 2 cb) ∧ W.cell? ⟨gx, 7, none⟩ = some (.int .i64 0) ∧ W.cell? ⟨gx, 8, none⟩ = some (.int .i64 0) ∧ W.cell? ⟨gx, 9, none⟩ = some (.int .i64 0) ∧ W.cell? ⟨gx, 10, none⟩ = some (.int .i64 0) := ⟨row_cell h.dbox rfl, row_cell h.dbox rfl, row_cell h.xbox rfl, row_cell h.xbox rfl, row_cell h.xbox rfl, row_cell h.xbox rfl, row_cell h.xbox rfl, row_cell h.xbox rfl, row_cell h.xbox rfl, row_cell h.xbox rfl, row_cell h.xbox rfl, row_cell h.xbox rfl, row_cell h.xbox rfl⟩
theorem Ll.reads (h : Ll w W gd gx ad B cb st) (h2 : st.length = 2) : Kd.C (Kd.int .i64) W B st.length st := by
 obtain ⟨A', c', e, _, hr⟩ := h.own.reads
 rw [h2] at e
 cases e
 exact hr
end
theorem Ll.fill {w W : World} {gd gx : Nat} {ad : Addr} {B : Option Addr} {cb : Nat} {st : List Int} (h : Ll w W gd gx ad B cb st) {B2 : Option Addr} {cb2 : Nat} {st2 : List Int} (ho : OwnI W w.heap.size (.slice B2 2 cb2) st2) :
 Ll w (((((((((((W.setCell ⟨gx, 0, none⟩ (.int .i64 1)).setCell ⟨gx, 1, none⟩ (.string ⟨#[107]⟩)).setCell ⟨gx, 2, none⟩ (.string ⟨#[97]⟩)).setCell ⟨gx, 3, none⟩ (.int .i64 1)).setCell ⟨gx, 4, none⟩ (.int .i64 1)).setCell ⟨gx, 5, none⟩ (.int .i64 0)).setCell ⟨gx, 6, none⟩ (.slice B2 2 cb2)).setCell ⟨gx, 7, none⟩ (.int .i64 0)).setCell ⟨gx, 8, none⟩ (.int .i64 0)).setCell ⟨gx, 9, none⟩ (.int .i64 0)).setCell ⟨gx, 10, none⟩ (.int .i64 0)) gd gx ad B2 cb2 st2 := by
 have s : ∀ (U : World) (j : Nat) (v : Value), Below w.heap.size w U → Below w.heap.size w (U.setCell ⟨gx, j, none⟩ v) := fun U j v h2 => h2.setCell (p := ⟨gx, j, none⟩) h.lo v
 exact ⟨s _ _ _ (s _ _ _ (s _ _ _ (s _ _ _ (s _ _ _ (s _ _ _ (s _ _ _ (s _ _ _ (s _ _ _ (s _ _ _ (s _ _ _ h.below)))))))))), h.db, h.sb, row11 h.xbox _ _ _ _ _ _ _ _ _ _ _, own_fillB ho (own_apart ho h.xbox) _ _ _ _ _ _ _ _ _ _ _, h.lo⟩
theorem lt_at {w : World} {lo : Nat} {v : Value} {n : Lt} (h : OwnLt w lo v [n]) : ∃ ad c, v = .slice (some ad) 1 c ∧ w.cell? (ad.add 0) = some (.int .i64 n.kind) := by
 obtain ⟨A, c, e, _, hC⟩ := Kd.R_reads h
 obtain ⟨ad, cs, hA, _, hK, hcell⟩ := Kd.C_get hC n 0 (by decide) (by simp)
 subst hA
 obtain ⟨c0, c1, rfl, h0, _⟩ := hK
 have h0 : c0 = [.int .i64 n.kind] := h0
 subst h0
 exact ⟨ad, c, e, hcell 0 _ rfl⟩
theorem lv_may : mayNote ⟨5, 1, 0, 0, 0, 0, ⟨#[]⟩, ⟨#[]⟩, 0, ⟨#[]⟩⟩ = true := by
 simp [mayNote, btwN, noteZ]
theorem lv_onTop : onTop lvN lvL lvX ⟨5, 1, 0, 0, 0, 0, ⟨#[]⟩, ⟨#[]⟩, 0, ⟨#[]⟩⟩ = (lvY, 0) := by
 unfold onTop
 rw [lv_sortX, lv_may, show onX lvN lvL lvX ⟨5, 1, 0, 0, 0, 0, ⟨#[]⟩, ⟨#[]⟩, 0, ⟨#[]⟩⟩ = some lvY from lv_on]
 rfl
theorem note_at {w : World} {lo : Nat} {v : Value} {n : Note} (h : OwnN w lo v [n]) : ∃ g c, v = .slice (some ⟨g, 0, none⟩) 1 c ∧ ∀ j u, (noteC n)[j]? = some u → w.cell? ⟨g, j, none⟩ = some u := by
 obtain ⟨g, c, e, _⟩ := World.ownsRow.form h (by simp)
 refine ⟨g, c, e, fun j u hj => ?_⟩
 have := World.ownsRow.cells h (g := g) (by rw [e]; rfl) j u (by simpa using hj)
 rw [Addr.add_lit, Nat.zero_add] at this
 exact this
theorem eqANt (d : Nat) (w : World) (x0 y0 : Int) (x1 y1 : Int) (x2 y2 : Int) (x3 y3 : Int) (x4 y4 : Int) (x5 y5 : Int) (x6 y6 : ByteArray) (x7 y7 : ByteArray) (x8 y8 : Int) (x9 y9 : ByteArray) :
 (Op.equalIn (d + 2) 37 (.agg #[.int .i64 x0, .int .i64 x1, .int .i64 x2, .int .i64 x3, .int .i64 x4, .int .i64 x5, .string x6, .string x7, .int .i64 x8, .string x9]) (.agg #[.int .i64 y0, .int .i64 y1, .int .i64 y2, .int .i64 y3, .int .i64 y4, .int .i64 y5, .string y6, .string y7, .int .i64 y8, .string y9])).run Tryz.prog w = .ok (x0 == y0 && (x1 == y1 && (x2 == y2 && (x3 == y3 && (x4 == y4 && (x5 == y5 && (x6.toList == y6.toList && (x7.toList == y7.toList && (x8 == y8 && (x9.toList == y9.toList)))))))))) w := by
 refine eqA_of Tryz.underlying37 (by kernel_rfl) ?_
 refine eqf_cons (by rfl) (by go_simp; rfl) (by go_simp; rfl) (by go_simp) ?_
 refine eqf_cons (by rfl) (by go_simp; rfl) (by go_simp; rfl) (by go_simp) ?_
 refine eqf_cons (by rfl) (by go_simp; rfl) (by go_simp; rfl) (by go_simp) ?_
 refine eqf_cons (by rfl) (by go_simp; rfl) (by go_simp; rfl) (by go_simp) ?_
 refine eqf_cons (by rfl) (by go_simp; rfl) (by go_simp; rfl) (by go_simp) ?_
 refine eqf_cons (by rfl) (by go_simp; rfl) (by go_simp; rfl) (by go_simp) ?_
 refine eqf_cons (by rfl) (by go_simp; rfl) (by go_simp; rfl) (by go_simp) ?_
 refine eqf_cons (by rfl) (by go_simp; rfl) (by go_simp; rfl) (by go_simp) ?_
 refine eqf_cons (by rfl) (by go_simp; rfl) (by go_simp; rfl) (by go_simp) ?_
 exact eqf_last (by rfl) (by go_simp; rfl) (by go_simp; rfl) (by go_simp)
attribute [local go_sem high] eqANt
theorem lv_code (U : World) : Calls Tryz.prog 60 #[.agg #[.int .i64 5, .int .i64 1, .int .i64 0, .int .i64 0, .int .i64 0, .int .i64 0, .string ⟨#[]⟩, .string ⟨#[]⟩, .int .i64 0, .string ⟨#[]⟩]] U fun e U' => (∃ s ce, e = .returned (.tuple #[.string s, .int .i64 ce]) ∧ (ce != 0) = !mayNote ⟨5, 1, 0, 0, 0, 0, ⟨#[]⟩, ⟨#[]⟩, 0, ⟨#[]⟩⟩) ∧ Below U.heap.size U U' := by
 have h := PhCd.note_of 5 1 0 0 0 0 ⟨#[]⟩ ⟨#[]⟩ 0 ⟨#[]⟩ true (fun W g hg => by
  refine (PhCd.may_calls 5 1 0 0 0 0 ⟨#[]⟩ ⟨#[]⟩ 0 ⟨#[]⟩ _ _ hg rfl (PhCd.own_5 1 0 0 0 0 ⟨#[]⟩ ⟨#[]⟩ 0 ⟨#[]⟩ hg)).mono ?_
  rintro e w' ⟨rfl, hb⟩
  exact ⟨by simp [btwN, PhCd.eqN], hb⟩) (fun _ => ⟨by unfold PhCd.InN; decide, by unfold PhCd.InN; decide, by unfold PhCd.InN; decide, by unfold PhCd.InN; decide, by unfold PhCd.InN; decide, by unfold PhCd.InN; decide, by unfold PhCd.InN; decide, by decide, by decide, by decide⟩) U
 refine h.mono ?_
 rintro e w' ⟨⟨s, ce, rfl, hc⟩, hb⟩
 exact ⟨⟨s, ce, rfl, by rw [hc, lv_may]⟩, hb⟩
set_option maxHeartbeats 16000000 in
set_option maxRecDepth 100000 in
theorem live_calls (w : World) (hT : TabsAt w) : Calls Tryz.prog 15 #[] w fun e w' => e = .returned (.bool true) ∧ Below w.heap.size w w' := by
 replace hT := Aside0.mk hT
 go_enter Tryz.func15, Tryz.ntmps15
 go_upto_region 2 with fail
 have hL : ∃ ad, ad = (⟨w.heap.size, 0, none⟩ : Addr) := ⟨_, rfl⟩
 obtain ⟨ad, had⟩ := hL
 have b1 := below_one w (.cells #[.string ⟨#[98]⟩, .int .i64 1, .int .i64 0, .slice none 0 0, .slice none 0 0, .string ⟨#[112]⟩, .int .i64 2, .int .i64 1, .slice none 0 0, .slice none 0 0] 70)
 have r1 := lv_row (alloc1 w (.cells #[.string ⟨#[98]⟩, .int .i64 1, .int .i64 0, .slice none 0 0, .slice none 0 0, .string ⟨#[112]⟩, .int .i64 2, .int .i64 1, .slice none 0 0, .slice none 0 0] 70))
 have s1 := alloc_n w (.cells #[.string ⟨#[98]⟩, .int .i64 1, .int .i64 0, .slice none 0 0, .slice none 0 0, .string ⟨#[112]⟩, .int .i64 2, .int .i64 1, .slice none 0 0, .slice none 0 0] 70)
 rw [← had] at r1 ⊢
 generalize World.alloc w _ = w1 at *
 have b2 := below_one w1 (.cells #[.string ⟨#[97]⟩, .slice (some ad) 2 2] 24)
 have r2 := alloc1 w1 (.cells #[.string ⟨#[97]⟩, .slice (some ad) 2 2] 24)
 rw [s1] at r2
 generalize World.alloc w1 _ = w2 at *
 have H2 := Aside0.mk (And.intro (on_ b1 b2) (And.intro r2 (r1.below b2)))
 have hd0 : w2.cell? ⟨w.heap.size + 1, 0, none⟩ = some (.string ⟨#[97]⟩) := row_cell r2 rfl
 have hd1 : w2.cell? ⟨w.heap.size + 1, 1, none⟩ = some (.slice (some ad) 2 2) := row_cell r2 rfl
 have hst := Aside0.mk (fun W (h : StepsAt W (some ad) lvL) (hT : TabsAt W) => (by exact start_yes lvN lvL (some ad) 2 1 lvK 1 W (by decide) (by decide) h lv_bounds (by decide) (by decide) hT lv_startOk : Calls Tryz.prog 12 #[.agg #[.string ⟨#[97]⟩, .slice (some ad) 2 2], .int .i64 1, .string ⟨#[107]⟩, .int .i64 1] W fun e w' => (∃ v, e = .returned (.tuple #[.agg #[.int .i64 1, .string ⟨#[107]⟩, .string ⟨#[97]⟩, .int .i64 1, .int .i64 1, .int .i64 0, v, .int .i64 0, .int .i64 0, .int .i64 0, .int .i64 0], .int .i64 0]) ∧ OwnI w' W.heap.size v [0, 0]) ∧ Below W.heap.size W w'))
 clear b1 b2 r1 r2 s1 had
 go_upto_region 3 with (go_at_call 12; refine (hst.out _ H2.out.2.2 (tabs_on hT.out H2.out.1)).mono ?_; rintro e w3 ⟨⟨v3, rfl, ho3⟩, hb3⟩; obtain ⟨B, cb, rfl, _, _⟩ := ho3.reads; have H3 := Aside0.mk (And.intro ho3 hb3); clear ho3 hb3)
 have HL : Ll w2 (w3.alloc (.cells #[.int .i64 1, .string ⟨#[107]⟩, .string ⟨#[97]⟩, .int .i64 1, .int .i64 1, .int .i64 0, .slice B 2 cb, .int .i64 0, .int .i64 0, .int .i64 0, .int .i64 0] 28)) (w.heap.size + 1) w3.heap.size ad B cb [0, 0] := ⟨on_ H3.out.2 (below_one _ _), H2.out.2.1, H2.out.2.2, alloc1 w3 _, own_on H3.out.1 (below_one _ _), H3.out.2.size⟩
 generalize w3.heap.size = gx at *
 generalize World.alloc w3 _ = w4 at *
 have H4 := Aside0.mk HL
 have HT2 := Aside0.mk (And.intro (tabs_on hT.out H2.out.1) H2.out.1)
 clear HL H2 H3 hd0 hd1 hst hT
 have hva := Aside0.mk (fun W (h : Ll w2 W (w.heap.size + 1) gx ad B cb [0, 0]) => (by
  have := valid_calls lvN lvL (some ad) 2 lvX B cb W (by decide) (by decide) h.steps lv_bounds (by decide) (by decide) (tabs_on HT2.out.1 h.below) (h.reads rfl) (by decide)
  rw [lv_sortX] at this
  exact this : Calls Tryz.prog 24 #[.agg #[.string ⟨#[97]⟩, .slice (some ad) 2 2], .agg #[.int .i64 1, .string ⟨#[107]⟩, .string ⟨#[97]⟩, .int .i64 1, .int .i64 1, .int .i64 0, .slice B 2 cb, .int .i64 0, .int .i64 0, .int .i64 0, .int .i64 0]] W fun e w' => e = .returned (.bool true) ∧ Below W.heap.size W w'))
 have hcl := Aside0.mk (fun W => (by exact closed_calls lvX B cb W : Calls Tryz.prog 28 #[.agg #[.int .i64 1, .string ⟨#[107]⟩, .string ⟨#[97]⟩, .int .i64 1, .int .i64 1, .int .i64 0, .slice B 2 cb, .int .i64 0, .int .i64 0, .int .i64 0, .int .i64 0]] W fun e w' => e = .returned (.bool false) ∧ Below W.heap.size W w'))
 have hnx := Aside0.mk (fun W (h : Ll w2 W (w.heap.size + 1) gx ad B cb [0, 0]) => (by
  have := next_calls lvN lvL (some ad) 2 lvX B cb W (by decide) (by decide) h.steps lv_bounds (by decide) (by decide) (tabs_on HT2.out.1 h.below) (h.reads rfl) (by decide)
  rw [lv_next] at this
  exact this : Calls Tryz.prog 25 #[.agg #[.string ⟨#[97]⟩, .slice (some ad) 2 2], .agg #[.int .i64 1, .string ⟨#[107]⟩, .string ⟨#[97]⟩, .int .i64 1, .int .i64 1, .int .i64 0, .slice B 2 cb, .int .i64 0, .int .i64 0, .int .i64 0, .int .i64 0]] W fun e w' => (∃ v, e = .returned v ∧ OwnN w' W.heap.size v [issueOf lvX 0]) ∧ Below W.heap.size W w'))
 obtain ⟨hd0, hd1, hx0, hx1, hx2, hx3, hx4, hx5, hx6, hx7, hx8, hx9, hx10⟩ := H4.out.cells
 go_upto_region 6 with (first | (go_at_call 24; refine (hva.out _ H4.out).mono ?_; rintro e w5 ⟨rfl, hb5⟩; have H5 := Aside0.mk (H4.out.on hb5); obtain ⟨hp0, hp1, hy0, hy1, hy2, hy3, hy4, hy5, hy6, hy7, hy8, hy9, hy10⟩ := H5.out.cells; clear hb5) | (go_at_call 28; refine (hcl.out _).mono ?_; rintro e w6 ⟨rfl, hb6⟩; have H6 := Aside0.mk (H5.out.on hb6); obtain ⟨hr0, hr1, hz0, hz1, hz2, hz3, hz4, hz5, hz6, hz7, hz8, hz9, hz10⟩ := H6.out.cells; clear hb6) | (go_at_call 25; refine (hnx.out _ H6.out).mono ?_; rintro e w7 ⟨⟨v7, rfl, ho7⟩, hb7⟩; have H7 := Aside0.mk (And.intro (H6.out.on hb7) ho7); clear hb7 ho7))
 clear hd0 hd1 hx0 hx1 hx2 hx3 hx4 hx5 hx6 hx7 hx8 hx9 hx10 hp0 hp1 hy0 hy1 hy2 hy3 hy4 hy5 hy6 hy7 hy8 hy9 hy10 hr0 hr1 hz0 hz1 hz2 hz3 hz4 hz5 hz6 hz7 hz8 hz9 hz10 H4 H5 H6 hva hcl hnx
 obtain ⟨gn, cn, hv7, hrow7⟩ := note_at H7.out.2
 subst hv7
 have K7 := Aside0.mk (And.intro H7.out.1 hrow7)
 obtain ⟨hd0, hd1, hx0, hx1, hx2, hx3, hx4, hx5, hx6, hx7, hx8, hx9, hx10⟩ := H7.out.1.cells
 have hn0 : w7.cell? ⟨gn, 0, none⟩ = some (.int .i64 5) := K7.out.2 0 _ rfl
 have hn1 : w7.cell? ⟨gn, 1, none⟩ = some (.int .i64 1) := K7.out.2 1 _ rfl
 have hn2 : w7.cell? ⟨gn, 2, none⟩ = some (.int .i64 0) := K7.out.2 2 _ rfl
 have hn3 : w7.cell? ⟨gn, 3, none⟩ = some (.int .i64 0) := K7.out.2 3 _ rfl
 have hn4 : w7.cell? ⟨gn, 4, none⟩ = some (.int .i64 0) := K7.out.2 4 _ rfl
 have hn5 : w7.cell? ⟨gn, 5, none⟩ = some (.int .i64 0) := K7.out.2 5 _ rfl
 have hn6 : w7.cell? ⟨gn, 6, none⟩ = some (.string ⟨#[]⟩) := K7.out.2 6 _ rfl
 have hn7 : w7.cell? ⟨gn, 7, none⟩ = some (.string ⟨#[]⟩) := K7.out.2 7 _ rfl
 have hn8 : w7.cell? ⟨gn, 8, none⟩ = some (.int .i64 0) := K7.out.2 8 _ rfl
 have hn9 : w7.cell? ⟨gn, 9, none⟩ = some (.string ⟨#[]⟩) := K7.out.2 9 _ rfl
 clear H7 hrow7
 have hf := fun j => free_of_row (j := j) K7.out.1.xbox
 have hon := Aside0.mk (fun W (h : Ll w2 W (w.heap.size + 1) gx ad B cb [0, 0]) => (by
  have := On_calls lvN lvL (some ad) 2 lvX B cb 5 1 0 0 0 0 ⟨#[]⟩ ⟨#[]⟩ 0 ⟨#[]⟩ W (by decide) (by decide) h.steps lv_bounds (by decide) (by decide) (tabs_on HT2.out.1 h.below) (h.reads rfl) (by decide) lv_code (fun e => absurd e (by decide))
  rw [lv_onTop] at this
  exact this : Calls Tryz.prog 23 #[.agg #[.string ⟨#[97]⟩, .slice (some ad) 2 2], .agg #[.int .i64 1, .string ⟨#[107]⟩, .string ⟨#[97]⟩, .int .i64 1, .int .i64 1, .int .i64 0, .slice B 2 cb, .int .i64 0, .int .i64 0, .int .i64 0, .int .i64 0], .agg #[.int .i64 5, .int .i64 1, .int .i64 0, .int .i64 0, .int .i64 0, .int .i64 0, .string ⟨#[]⟩, .string ⟨#[]⟩, .int .i64 0, .string ⟨#[]⟩]] W fun e w' => (∃ v, e = .returned (.tuple #[.agg #[.int .i64 1, .string ⟨#[107]⟩, .string ⟨#[97]⟩, .int .i64 1, .int .i64 1, .int .i64 0, v, .int .i64 0, .int .i64 0, .int .i64 0, .int .i64 0], .int .i64 0]) ∧ OwnI w' W.heap.size v [1, 0]) ∧ Below W.heap.size W w'))
 go_upto_region 8 with fail
 refine start_ (n := 11) (S := fun w' => w'.cell? ⟨w.heap.size + 1, 0, none⟩ = some (.string ⟨#[97]⟩) ∧ w'.cell? ⟨w.heap.size + 1, 1, none⟩ = some (.slice (some ad) 2 2) ∧ w'.cell? ⟨gx, 0, none⟩ = some (.int .i64 1) ∧ w'.cell? ⟨gx, 1, none⟩ = some (.string ⟨#[107]⟩) ∧ w'.cell? ⟨gx, 2, none⟩ = some (.string ⟨#[97]⟩) ∧ w'.cell? ⟨gx, 3, none⟩ = some (.int .i64 1) ∧ w'.cell? ⟨gx, 4, none⟩ = some (.int .i64 1) ∧ w'.cell? ⟨gx, 5, none⟩ = some (.int .i64 0) ∧ w'.cell? ⟨gx, 6, none⟩ = some (.slice B 2 cb) ∧ w'.cell? ⟨gx, 7, none⟩ = some (.int .i64 0) ∧ w'.cell? ⟨gx, 8, none⟩ = some (.int .i64 0) ∧ w'.cell? ⟨gx, 9, none⟩ = some (.int .i64 0) ∧ w'.cell? ⟨gx, 10, none⟩ = some (.int .i64 0) ∧ w'.cell? ⟨gn, 0, none⟩ = some (.int .i64 5) ∧ w'.cell? ⟨gn, 1, none⟩ = some (.int .i64 1) ∧ w'.cell? ⟨gn, 2, none⟩ = some (.int .i64 0) ∧ w'.cell? ⟨gn, 3, none⟩ = some (.int .i64 0) ∧ w'.cell? ⟨gn, 4, none⟩ = some (.int .i64 0) ∧ w'.cell? ⟨gn, 5, none⟩ = some (.int .i64 0) ∧ w'.cell? ⟨gn, 6, none⟩ = some (.string ⟨#[]⟩) ∧ w'.cell? ⟨gn, 7, none⟩ = some (.string ⟨#[]⟩) ∧ w'.cell? ⟨gn, 8, none⟩ = some (.int .i64 0) ∧ w'.cell? ⟨gn, 9, none⟩ = some (.string ⟨#[]⟩)) (ds := [9]) #[false,false,false,false,false,false,false,false,false,false,false] (by kernel_rfl) rfl rfl ⟨(by go_keep), (by go_keep), (by go_keep), (by go_keep), (by go_keep), (by go_keep), (by go_keep), (by go_keep), (by go_keep), (by go_keep), (by go_keep), (by go_keep), (by go_keep), (by go_keep), (by go_keep), (by go_keep), (by go_keep), (by go_keep), (by go_keep), (by go_keep), (by go_keep), (by go_keep), (by go_keep)⟩ (fun hHeld => ?_)
 refine zV 2 54 11 4 ?_
 refine zV 3 55 11 12 ?_
 refine zT 0 52 11 13 hHeld ?_
 refine zT 1 53 11 15 hHeld ?_
 refine zT 4 56 11 31 hHeld ?_
 refine one_ (i := 5) (N := some 57) (zG 11 63) rfl rfl (by kernel_rfl) (by decide) (fun K hK => ?_)
 refine goes_ Tryz.func23 (by kernel_rfl) rfl #[.agg #[.string ⟨#[97]⟩, .slice (some ad) 2 2], .agg #[.int .i64 1, .string ⟨#[107]⟩, .string ⟨#[97]⟩, .int .i64 1, .int .i64 1, .int .i64 0, .slice B 2 cb, .int .i64 0, .int .i64 0, .int .i64 0, .int .i64 0], .agg #[.int .i64 5, .int .i64 1, .int .i64 0, .int .i64 0, .int .i64 0, .int .i64 0, .string ⟨#[]⟩, .string ⟨#[]⟩, .int .i64 0, .string ⟨#[]⟩]] (by rfl) rfl rfl (by simp only [List.map_toArray, List.map_cons, List.map_nil]; rfl) ?_
 with_reducible refine (hon.out _ (K7.out.1.on (below_drew (Below.refl _ _)))).mono ?_
 rintro e w8 ⟨⟨v8, rfl, ho8⟩, hb8⟩
 refine ⟨_, rfl, ?_⟩
 have K8 : Aside0 (Ll w2 w8 (w.heap.size + 1) gx ad B cb [0, 0] ∧ ∀ j u, (noteC (issueOf lvX 0))[j]? = some u → w8.cell? ⟨gn, j, none⟩ = some u) := ⟨(K7.out.1.on (below_drew (Below.refl _ _))).on hb8, fun j u hj => cell_on (on_ (below_drew (Below.refl _ _)) hb8) (K7.out.2 j u hj)⟩
 obtain ⟨B2, cb2, rfl, _, _⟩ := ho8.reads
 have O8 := Aside0.mk ho8
 have hf8 := fun j => free_of_row (j := j) K8.out.1.xbox
 clear ho8 hb8
 refine hK.out _ _ ⟨K8.out.1.cells.1, K8.out.1.cells.2.1, K8.out.1.cells.2.2.1, K8.out.1.cells.2.2.2.1, K8.out.1.cells.2.2.2.2.1, K8.out.1.cells.2.2.2.2.2.1, K8.out.1.cells.2.2.2.2.2.2.1, K8.out.1.cells.2.2.2.2.2.2.2.1, K8.out.1.cells.2.2.2.2.2.2.2.2.1, K8.out.1.cells.2.2.2.2.2.2.2.2.2.1, K8.out.1.cells.2.2.2.2.2.2.2.2.2.2.1, K8.out.1.cells.2.2.2.2.2.2.2.2.2.2.2.1, K8.out.1.cells.2.2.2.2.2.2.2.2.2.2.2.2, (K8.out.2 0 _ rfl), (K8.out.2 1 _ rfl), (K8.out.2 2 _ rfl), (K8.out.2 3 _ rfl), (K8.out.2 4 _ rfl), (K8.out.2 5 _ rfl), (K8.out.2 6 _ rfl), (K8.out.2 7 _ rfl), (K8.out.2 8 _ rfl), (K8.out.2 9 _ rfl)⟩ (fun hHeld => ?_)
 clear hK K
 refine norm_ (a' := ?_) ?_ ?_
 rotate_left
 · show Act.put _ (some 57) _ = _
   simp only [Act.put, zA, zB, zC, i64_w, i32_w]
   rfl
 refine zV 6 51 11 127 ?_
 refine zV 7 58 11 255 ?_
 refine zV 8 59 11 511 ?_
 refine last_ (i := 9) (N := none) #[true,true,true,true,true,true,true,true,true,true,false] rfl rfl (by kernel_rfl) (by decide) (fun K hK => ?_)
 refine skip_ (w1 := ?_) (by rfl) rfl ?_ ?_
 rotate_left
 · go_simp
   rfl
 refine hK.out _ _ ?_
 clear hK K
 refine zV 10 3 11 2047 ?_
 refine done_ (by kernel_rfl) ?_
 have HS : Aside0 (Ll w2 _ (w.heap.size + 1) gx ad B2 cb2 [1, 0]) := ⟨K8.out.1.fill (owI_low (lo' := w2.heap.size) O8.out (by have := K7.out.1.below.size; exact this))⟩
 clear hd0 hd1 hx0 hx1 hx2 hx3 hx4 hx5 hx6 hx7 hx8 hx9 hx10 hn0 hn1 hn2 hn3 hn4 hn5 hn6 hn7 hn8 hn9 hf hf8 K7 K8 O8 hon hHeld
 generalize World.setCell _ _ _ = w9 at *
 obtain ⟨hd0, hd1, hx0, hx1, hx2, hx3, hx4, hx5, hx6, hx7, hx8, hx9, hx10⟩ := HS.out.cells
 have hwa := Aside0.mk (fun W (h : Ll w2 W (w.heap.size + 1) gx ad B2 cb2 [1, 0]) => (by
  have := wants_calls lvN lvL (some ad) 2 lvY B2 cb2 W (by decide) (by decide) h.steps lv_bounds (by decide) (by decide) (tabs_on HT2.out.1 h.below) (h.reads rfl) (by decide)
  rw [lv_wants] at this
  exact this : Calls Tryz.prog 26 #[.agg #[.string ⟨#[97]⟩, .slice (some ad) 2 2], .agg #[.int .i64 1, .string ⟨#[107]⟩, .string ⟨#[97]⟩, .int .i64 1, .int .i64 1, .int .i64 0, .slice B2 2 cb2, .int .i64 0, .int .i64 0, .int .i64 0, .int .i64 0]] W fun e w' => (∃ v, e = .returned v ∧ OwnLt w' W.heap.size v [⟨1, 0, 1, 0, 1, []⟩]) ∧ Below W.heap.size W w'))
 have hno := Aside0.mk (fun W (h : Ll w2 W (w.heap.size + 1) gx ad B2 cb2 [1, 0]) => (by
  have := notes_calls lvN lvL (some ad) 2 lvY B2 cb2 W (by decide) (by decide) h.steps lv_bounds (by decide) (by decide) (tabs_on HT2.out.1 h.below) (h.reads rfl) (by decide)
  refine this.mono ?_
  rintro e w' ⟨⟨v, rfl, ho⟩, hb⟩
  obtain ⟨A', c', rfl⟩ := ownN_shape ho
  rw [lv_notes]
  exact ⟨⟨A', c', rfl⟩, hb⟩ : Calls Tryz.prog 22 #[.agg #[.string ⟨#[97]⟩, .slice (some ad) 2 2], .agg #[.int .i64 1, .string ⟨#[107]⟩, .string ⟨#[97]⟩, .int .i64 1, .int .i64 1, .int .i64 0, .slice B2 2 cb2, .int .i64 0, .int .i64 0, .int .i64 0, .int .i64 0]] W fun e w' => (∃ A' c', e = .returned (.slice A' 1 c')) ∧ Below W.heap.size W w'))
 go_upto_region 10 with (go_at_call 26; refine (hwa.out _ HS.out).mono ?_; rintro e w10 ⟨⟨v10, rfl, ho10⟩, hb10⟩; have H10 := Aside0.mk (And.intro (HS.out.on hb10) ho10); clear hb10 ho10)
 obtain ⟨al, cl, hv10, hcl⟩ := lt_at H10.out.2
 subst hv10
 obtain ⟨ax, eax, hax⟩ := int_at (H10.out.1.reads rfl) (i := 0) (by decide)
 subst eax
 clear hd0 hd1 hx0 hx1 hx2 hx3 hx4 hx5 hx6 hx7 hx8 hx9 hx10
 obtain ⟨hd0, hd1, hx0, hx1, hx2, hx3, hx4, hx5, hx6, hx7, hx8, hx9, hx10⟩ := H10.out.1.cells
 have hax0 : w10.cell? ax = some (.int .i64 1) := by
  rw [show ax.add 0 = ax by cases ax; simp [Addr.add]] at hax
  exact hax
 have hal0 : w10.cell? al = some (.int .i64 1) := by
  rw [show al.add 0 = al by cases al; simp [Addr.add]] at hcl
  exact hcl
 go_wp2_with (go_at_call 22; refine (hno.out _ H10.out.1).mono ?_; rintro e w11 ⟨⟨A', c', rfl⟩, hb11⟩; have H11 := Aside0.mk (H10.out.1.on hb11); clear hb11)
 go_ret
 exact ⟨rfl, on_ HT2.out.2 H11.out.below⟩
end Go.Proofs.YtgjddnaidjbhlaaGreatDoor.Ph

/- odysseylaw19: ints, Same, of two that are the same (P19): walked by hand. -/
namespace Go.Proofs.YtgjddnaidjbhlaaGreatDoor.Ph
open Go.RowKit Go.IntWalk Go.Proofs.YtgjddnaidjbhlaaGreatDoorW.PrintWords Go.Proofs.YtgjddnaidjbhlaaGreatDoorW.PrintLast Go.Proofs.YtgjddnaidjbhlaaGreatDoorW.PrintMore Go.Proofs.YtgjddnaidjbhlaaGreatDoor.PlName Go.Proofs.YtgjddnaidjbhlaaGreatDoor.Pl

set_option maxHeartbeats 16000000 in
set_option maxRecDepth 100000 in
theorem intsSame_calls (A B : Option Addr) (ca cb : Nat) (a : List Int) (w : World) (ha : Kd.C (Kd.int .i64) w A a.length a) (hb : Kd.C (Kd.int .i64) w B a.length a) (hla : a.length ≤ 17592186044416) :
 Calls Tryz.prog 36 #[.slice A a.length ca, .slice B a.length cb] w fun e w' => e = .returned (.bool true) ∧ Below w.heap.size w w' := by
 have HK := Aside0.mk (And.intro ha hb)
 clear ha hb
 go_enter Tryz.func36, Tryz.ntmps36
 have hd1 : ((a.length : Int) != (a.length : Int)) = false := bne_eq_false_iff_eq.2 rfl
 go_wp2
 go_loopw [5] (fun v5 wr => ∃ k : Nat, k ≤ a.length ∧ v5 = .int .i64 (k : Int) ∧ Below w.heap.size w wr) (fun v5 _ => a.length - (intOf v5).toNat)
 case atStart => exact ⟨0, Nat.zero_le _, rfl, Below.refl _ _⟩
 case round =>
  obtain ⟨k, hk, rfl, hB⟩ := hrel
  have HG := Aside0.mk hB
  clear hB
  by_cases hlt : k < a.length
  · have hd2 : decide ((k : Int) < (a.length : Int)) = true := decide_eq_true (by omega)
    obtain ⟨aa, rfl, hx⟩ := int_at HK.out.1 hlt
    obtain ⟨ab, rfl, hy⟩ := int_at HK.out.2 hlt
    replace hx := cell_on HG.out hx
    replace hy := cell_on HG.out hy
    generalize a[k] = x at *
    have hd3 : (x != x) = false := bne_eq_false_iff_eq.2 rfl
    go_wp2
    go_quiet (fail)
    go_wp2
    go_roundw
    case rel => exact ⟨k + 1, hlt, by go_num, bdn HG.out⟩
    case measure => simp [intOf]; omega
  · have hd2 : decide ((k : Int) < (a.length : Int)) = false := decide_eq_false (by omega)
    go_wp2
    go_ret
    exact ⟨rfl, HG.out⟩
/-- Two instances lie in boxes. -/
structure Xx (w W : World) (x : Inst) (B : Option Addr) (cb : Nat) (B2 : Option Addr) (cb2 : Nat) : Prop where
 below : Below w.heap.size w W
 xbox : W.heap[w.heap.size]? = some (.cells #[.int .i64 x.id, .string x.key, .string x.name, .int .i64 x.version, .int .i64 x.phase, .int .i64 x.cause, .slice B x.steps.length cb, .int .i64 (x.freed 0), .int .i64 (x.freed 1), .int .i64 (x.freed 2), .int .i64 (x.freed 3)] 28 (0, 0))
 ybox : W.heap[w.heap.size + 1]? = some (.cells #[.int .i64 x.id, .string x.key, .string x.name, .int .i64 x.version, .int .i64 x.phase, .int .i64 x.cause, .slice B2 x.steps.length cb2, .int .i64 (x.freed 0), .int .i64 (x.freed 1), .int .i64 (x.freed 2), .int .i64 (x.freed 3)] 28 (0, 0))
set_option maxHeartbeats 16000000 in
set_option maxRecDepth 100000 in
theorem Same_calls (x : Inst) (B : Option Addr) (cb : Nat) (B2 : Option Addr) (cb2 : Nat) (w : World) (ha : Kd.C (Kd.int .i64) w B x.steps.length x.steps) (hb : Kd.C (Kd.int .i64) w B2 x.steps.length x.steps) (hla : x.steps.length ≤ 17592186044416) :
 Calls Tryz.prog 14 #[.agg #[.int .i64 x.id, .string x.key, .string x.name, .int .i64 x.version, .int .i64 x.phase, .int .i64 x.cause, .slice B x.steps.length cb, .int .i64 (x.freed 0), .int .i64 (x.freed 1), .int .i64 (x.freed 2), .int .i64 (x.freed 3)], .agg #[.int .i64 x.id, .string x.key, .string x.name, .int .i64 x.version, .int .i64 x.phase, .int .i64 x.cause, .slice B2 x.steps.length cb2, .int .i64 (x.freed 0), .int .i64 (x.freed 1), .int .i64 (x.freed 2), .int .i64 (x.freed 3)]] w fun e w' => e = .returned (.bool true) ∧ Below w.heap.size w w' := by
 have HV : Aside0 (Xx w ((w.alloc (.cells #[.int .i64 x.id, .string x.key, .string x.name, .int .i64 x.version, .int .i64 x.phase, .int .i64 x.cause, .slice B x.steps.length cb, .int .i64 (x.freed 0), .int .i64 (x.freed 1), .int .i64 (x.freed 2), .int .i64 (x.freed 3)] 28)).alloc (.cells #[.int .i64 x.id, .string x.key, .string x.name, .int .i64 x.version, .int .i64 x.phase, .int .i64 x.cause, .slice B2 x.steps.length cb2, .int .i64 (x.freed 0), .int .i64 (x.freed 1), .int .i64 (x.freed 2), .int .i64 (x.freed 3)] 28)) x B cb B2 cb2) := ⟨on_ (below_one _ _) (below_one _ _), row_on (below_one _ _) (alloc1 w _), alloc_2 w _ _⟩
 have HK := Aside0.mk (fun W (h : Below w.heap.size w W) => intsSame_calls B B2 cb cb2 x.steps W (Kd.C_below ha h) (Kd.C_below hb h) hla)
 have heq := fun (w : World) (x0 x1 x2 x3 y0 y1 y2 y3 : Int) => eqI4 9998 w x0 x1 x2 x3 y0 y1 y2 y3
 clear ha hb
 go_enter Tryz.func14, Tryz.ntmps14
 go_upto_region 1 with fail
 generalize World.alloc (World.alloc w _) _ = w0 at *
 have hx0 : _ := row_cell (j := 0) (v := .int .i64 x.id) HV.out.xbox rfl
 have hx1 : _ := row_cell (j := 1) (v := .string x.key) HV.out.xbox rfl
 have hx2 : _ := row_cell (j := 2) (v := .string x.name) HV.out.xbox rfl
 have hx3 : _ := row_cell (j := 3) (v := .int .i64 x.version) HV.out.xbox rfl
 have hx4 : _ := row_cell (j := 4) (v := .int .i64 x.phase) HV.out.xbox rfl
 have hx5 : _ := row_cell (j := 5) (v := .int .i64 x.cause) HV.out.xbox rfl
 have hx6 : _ := row_cell (j := 6) (v := .slice B x.steps.length cb) HV.out.xbox rfl
 have hx7 : _ := row_cell (j := 7) (v := .int .i64 (x.freed 0)) HV.out.xbox rfl
 have hx8 : _ := row_cell (j := 8) (v := .int .i64 (x.freed 1)) HV.out.xbox rfl
 have hx9 : _ := row_cell (j := 9) (v := .int .i64 (x.freed 2)) HV.out.xbox rfl
 have hx10 : _ := row_cell (j := 10) (v := .int .i64 (x.freed 3)) HV.out.xbox rfl
 have hy0 : _ := row_cell (j := 0) (v := .int .i64 x.id) HV.out.ybox rfl
 have hy1 : _ := row_cell (j := 1) (v := .string x.key) HV.out.ybox rfl
 have hy2 : _ := row_cell (j := 2) (v := .string x.name) HV.out.ybox rfl
 have hy3 : _ := row_cell (j := 3) (v := .int .i64 x.version) HV.out.ybox rfl
 have hy4 : _ := row_cell (j := 4) (v := .int .i64 x.phase) HV.out.ybox rfl
 have hy5 : _ := row_cell (j := 5) (v := .int .i64 x.cause) HV.out.ybox rfl
 have hy6 : _ := row_cell (j := 6) (v := .slice B2 x.steps.length cb2) HV.out.ybox rfl
 have hy7 : _ := row_cell (j := 7) (v := .int .i64 (x.freed 0)) HV.out.ybox rfl
 have hy8 : _ := row_cell (j := 8) (v := .int .i64 (x.freed 1)) HV.out.ybox rfl
 have hy9 : _ := row_cell (j := 9) (v := .int .i64 (x.freed 2)) HV.out.ybox rfl
 have hy10 : _ := row_cell (j := 10) (v := .int .i64 (x.freed 3)) HV.out.ybox rfl
 go_wp2_with (first | (go_at_call 36; refine (HK.out _ HV.out.below).mono ?_; rintro e w1 ⟨rfl, hb1⟩; have H1 := Aside0.mk (on_ HV.out.below hb1); clear hb1))
 go_ret
 exact ⟨rfl, H1.out⟩
end Go.Proofs.YtgjddnaidjbhlaaGreatDoor.Ph

/- odysseyref19: some, has, pivot (P19): walked by hand. -/
namespace Go.Proofs.YtgjddnaidjbhlaaGreatDoor.Ph
open Go.RowKit Go.IntWalk Go.Proofs.YtgjddnaidjbhlaaGreatDoorW.PrintWords Go.Proofs.YtgjddnaidjbhlaaGreatDoorW.PrintLast Go.Proofs.YtgjddnaidjbhlaaGreatDoorW.PrintMore Go.Proofs.YtgjddnaidjbhlaaGreatDoor.PlName Go.Proofs.YtgjddnaidjbhlaaGreatDoor.Pl

theorem any_no {p : Nat → Bool} {n : Nat} (h : ∀ j, j < n → p j = false) : (List.range n).any p = false := by
 rw [List.any_eq_false]
 intro i hi
 rw [h i (List.mem_range.1 hi)]
 decide
theorem any_yes {p : Nat → Bool} {n j : Nat} (hj : j < n) (h : p j = true) : (List.range n).any p = true := List.any_eq_true.2 ⟨j, List.mem_range.2 hj, h⟩
set_option maxHeartbeats 16000000 in
set_option maxRecDepth 100000 in
theorem hasR_calls (nm : ByteArray) (l : List Step) (A : Option Addr) (c : Nat) (kind : Int) (w : World) (hS : StepsAt w A l) (hl8 : l.length ≤ 9000000000000) :
 Calls Tryz.prog 35 #[.agg #[.string nm, .slice A l.length c], .int .i64 kind] w fun e w' => e = .returned (.bool (hasR l kind)) ∧ Below w.heap.size w w' := by
 have hb0 := below_one w (.cells #[.string nm, .slice A l.length c] 24)
 have hr0 := alloc1 w (.cells #[.string nm, .slice A l.length c] 24)
 have HV := Aside0.mk (And.intro hb0 hr0)
 have HA := Aside0.mk hS
 have HF : Aside0 (hasR l kind = (List.range l.length).any fun i => kindOf l i == kind) := ⟨rfl⟩
 generalize hasR l kind = rr at *
 clear hS hb0 hr0
 go_enter Tryz.func35, Tryz.ntmps35
 go_wp2
 generalize World.alloc w _ = w0 at *
 go_loopw [5] (fun v5 wr => ∃ k : Nat, k ≤ l.length ∧ v5 = .int .i64 (k : Int) ∧ (∀ j, j < k → (kindOf l j == kind) = false) ∧ Below w.heap.size w wr ∧ wr.heap[w.heap.size]? = some (.cells #[.string nm, .slice A l.length c] 24 (0, 0))) (fun v5 _ => l.length - (intOf v5).toNat)
 case atStart => exact ⟨0, Nat.zero_le _, rfl, fun j hj => absurd hj (Nat.not_lt_zero _), HV.out.1, HV.out.2⟩
 case round =>
  obtain ⟨k, hk, rfl, hal, hN, hrow⟩ := hrel
  have HG := Aside0.mk (And.intro hal (And.intro hN hrow))
  have hp1 := row_cell (j := 1) hrow rfl
  clear HV hN hal hrow
  by_cases hlt : k < l.length
  · have hd1 : decide ((k : Int) < (l.length : Int)) = true := decide_eq_true (by omega)
    obtain ⟨ad, rfl, A1, c1, A2, c2, h1⟩ := HA.out.one (stepAt_eq hlt)
    have hkd := (h1.below HG.out.2.1).c1_
    clear h1
    have HYES : Aside0 ((kindOf l k == kind) = false → ∀ j, j < k + 1 → (kindOf l j == kind) = false) := ⟨fun h j hj => by
     rcases Nat.lt_succ_iff_lt_or_eq.1 hj with e | e
     · exact HG.out.1 j e
     · subst e
       exact h⟩
    have HNO : Aside0 ((kindOf l k == kind) = true → rr = true) := ⟨fun h => HF.out.trans (any_yes hlt h)⟩
    unfold kindOf at HYES HNO
    generalize (stepAt l k).kind = kd at *
    cases h3 : (kd == kind)
    · go_wp2
      go_roundw
      case rel => exact ⟨k + 1, hlt, by go_num, HYES.out h3, HG.out.2⟩
      case measure => simp [intOf]; omega
    · go_wp2
      go_ret
      exact ⟨by rw [HNO.out h3]; rfl, HG.out.2.1⟩
  · have hd1 : decide ((k : Int) < (l.length : Int)) = false := decide_eq_false (by omega)
    have HR : Aside0 (rr = false) := ⟨HF.out.trans (any_no fun j hj => HG.out.1 j (by omega))⟩
    go_wp2
    go_ret
    exact ⟨by rw [HR.out]; rfl, HG.out.2.1⟩
end Go.Proofs.YtgjddnaidjbhlaaGreatDoor.Ph

/- odysseyref19.Start (P19): walked by hand. -/
namespace Go.Proofs.YtgjddnaidjbhlaaGreatDoor.Ph
open Go.RowKit Go.IntWalk Go.Proofs.YtgjddnaidjbhlaaGreatDoorW.PrintWords Go.Proofs.YtgjddnaidjbhlaaGreatDoorW.PrintLast Go.Proofs.YtgjddnaidjbhlaaGreatDoorW.PrintMore Go.Proofs.YtgjddnaidjbhlaaGreatDoor.PlName Go.Proofs.YtgjddnaidjbhlaaGreatDoor.Pl
attribute [local go_sem ↓] Go.wp_at_zero Go.wp_at_succ

set_option maxHeartbeats 16000000 in
set_option maxRecDepth 100000 in
theorem startR_no (nm : ByteArray) (l : List Step) (A : Option Addr) (c : Nat) (id : Int) (key : ByteArray) (version : Int) (w : World) (hnm : nm.size ≤ 140737488351232) (hk : key.size ≤ 140737488351232) (hS : StepsAt w A l) (hb : ∀ s ∈ l, StepB s) (hn : l.length ≤ 9000000000000) (hc : l.length ≤ c) (hno : startOk nm l id key version = false) :
 Calls Tryz.prog 13 #[.agg #[.string nm, .slice A l.length c], .int .i64 id, .string key, .int .i64 version] w fun e w' => e = .returned (.tuple #[instV nullX (.slice none 0 0), .int .i64 1]) ∧ Below w.heap.size w w' := by
 have HS0 : Aside0 (Sw w ((w.alloc (.cells #[.string nm, .slice A l.length c] 24)).alloc (.cells #[.int .i64 0, .string ByteArray.empty, .string ByteArray.empty, .int .i64 0, .int .i64 0, .int .i64 0, .slice none 0 0, .int .i64 0, .int .i64 0, .int .i64 0, .int .i64 0] 28)) nm l A c) := ⟨on_ (below_one _ _) (below_one _ _), row_on (below_one _ _) (alloc1 w _), alloc_two w _ _⟩
 have hck := Aside0.mk (fun W (h : Below w.heap.size w W) => refCheck_calls nm l A c W hnm (hS.below h) hb (by omega) hc)
 have his : Aside0 (∀ W, Calls Tryz.prog 34 #[.string key] W fun e w' => e = .returned (.bool (Nm.isName key)) ∧ Below W.heap.size W w') := ⟨fun W => isR_calls _ W (by omega)⟩
 have HW := start_ways _ _ _ _ _ _ (show (defOk nm l && (decide (1 ≤ id) && (decide (id ≤ 60) && (Nm.isName key && (decide (1 ≤ version) && decide (version ≤ 16)))))) = false from hno)
 clear hno hnm hk hS hb
 have hi1 := lt_one id
 have hi2 := gt_of id 60
 have hv1 := lt_one version
 have hv2 := gt_of version 16
 generalize defOk nm l = d at *
 generalize decide (1 ≤ id) = i1 at *
 generalize decide (id ≤ 60) = i2 at *
 generalize Nm.isName key = k at *
 generalize decide (1 ≤ version) = v1 at *
 generalize decide (version ≤ 16) = v2 at *
 go_enter Tryz.func13, Tryz.ntmps13
 rcases HW with rfl | ⟨rfl, rfl⟩ | ⟨rfl, rfl, rfl⟩ | ⟨rfl, rfl, rfl, rfl⟩ | ⟨rfl, rfl, rfl, rfl, rfl⟩ | ⟨rfl, rfl, rfl, rfl, rfl, rfl⟩
 all_goals
  (try simp only [Bool.not_true, Bool.not_false] at hi1 hi2 hv1 hv2)
  go_wp2_with (first | (go_at_call 20; refine (hck.out _ HS0.out.below).mono ?_; rintro e w1 ⟨⟨xa, xb, rfl, hxb⟩, hb1⟩; have hd1 : (xb != 0) = true := (by rw [bne, hxb]; rfl); have H1 := Aside0.mk (HS0.out.on hb1); clear hxb hb1; obtain ⟨hq0, hq1, hqf, hqr0, hqr1, hqr2, hqr3, hqr4, hqr5, hqr6, hqr7, hqr8, hqr9, hqr10⟩ := H1.out.cells) | (go_at_call 20; refine (hck.out _ HS0.out.below).mono ?_; rintro e w1 ⟨⟨xa, xb, rfl, hxb⟩, hb1⟩; have hd1 : (xb != 0) = false := (by rw [bne, hxb]; rfl); have H1 := Aside0.mk (HS0.out.on hb1); clear hxb hb1; obtain ⟨hq0, hq1, hqf, hqr0, hqr1, hqr2, hqr3, hqr4, hqr5, hqr6, hqr7, hqr8, hqr9, hqr10⟩ := H1.out.cells) | (go_at_call 34; refine (his.out _).mono ?_; rintro e w2 ⟨rfl, hb2⟩; have H2 := Aside0.mk (H1.out.on hb2); clear hb2; obtain ⟨hr0, hr1, hrf, hrr0, hrr1, hrr2, hrr3, hrr4, hrr5, hrr6, hrr7, hrr8, hrr9, hrr10⟩ := H2.out.cells))
  first
   | (have hr := row11 H2.out.rbox (.int .i64 0) (.string ⟨#[]⟩) (.string ⟨#[]⟩) (.int .i64 0) (.int .i64 0) (.int .i64 0) (.slice none 0 0) (.int .i64 0) (.int .i64 0) (.int .i64 0) (.int .i64 0); have hq := H2.out.filled (.int .i64 0) (.string ⟨#[]⟩) (.string ⟨#[]⟩) (.int .i64 0) (.int .i64 0) (.int .i64 0) (.slice none 0 0) (.int .i64 0) (.int .i64 0) (.int .i64 0) (.int .i64 0); generalize World.setCell _ _ _ = U at hr hq ⊢; refine bodyPost_ret (results_ct rfl _ _ (w.heap.size + 1) 28 _ (0, 0) _ rfl hr Tryz.underlying28 rfl (by kernel_rfl)) rfl ?_; exact ⟨rfl, hq⟩)
   | (have hr := row11 H1.out.rbox (.int .i64 0) (.string ⟨#[]⟩) (.string ⟨#[]⟩) (.int .i64 0) (.int .i64 0) (.int .i64 0) (.slice none 0 0) (.int .i64 0) (.int .i64 0) (.int .i64 0) (.int .i64 0); have hq := H1.out.filled (.int .i64 0) (.string ⟨#[]⟩) (.string ⟨#[]⟩) (.int .i64 0) (.int .i64 0) (.int .i64 0) (.slice none 0 0) (.int .i64 0) (.int .i64 0) (.int .i64 0) (.int .i64 0); generalize World.setCell _ _ _ = U at hr hq ⊢; refine bodyPost_ret (results_ct rfl _ _ (w.heap.size + 1) 28 _ (0, 0) _ rfl hr Tryz.underlying28 rfl (by kernel_rfl)) rfl ?_; exact ⟨rfl, hq⟩)
set_option maxHeartbeats 16000000 in
set_option maxRecDepth 100000 in
theorem startR_yes (nm : ByteArray) (l : List Step) (A : Option Addr) (c : Nat) (id : Int) (key : ByteArray) (version : Int) (w : World) (hnm : nm.size ≤ 140737488351232) (hk : key.size ≤ 140737488351232) (hS : StepsAt w A l) (hb : ∀ s ∈ l, StepB s) (hn : l.length ≤ 9000000000000) (hc : l.length ≤ c) (hyes : startOk nm l id key version = true) :
 Calls Tryz.prog 13 #[.agg #[.string nm, .slice A l.length c], .int .i64 id, .string key, .int .i64 version] w fun e w' => (∃ v, e = .returned (.tuple #[instV (startX nm l id key version) v, .int .i64 0]) ∧ OwnI w' w.heap.size v (List.replicate l.length 0)) ∧ Below w.heap.size w w' := by
 have HS0 : Aside0 (Sw w ((w.alloc (.cells #[.string nm, .slice A l.length c] 24)).alloc (.cells #[.int .i64 0, .string ByteArray.empty, .string ByteArray.empty, .int .i64 0, .int .i64 0, .int .i64 0, .slice none 0 0, .int .i64 0, .int .i64 0, .int .i64 0, .int .i64 0] 28)) nm l A c) := ⟨on_ (below_one _ _) (below_one _ _), row_on (below_one _ _) (alloc1 w _), alloc_two w _ _⟩
 have hck := Aside0.mk (fun W (h : Below w.heap.size w W) => refCheck_calls nm l A c W hnm (hS.below h) hb (by omega) hc)
 have his : Aside0 (∀ W, Calls Tryz.prog 34 #[.string key] W fun e w' => e = .returned (.bool (Nm.isName key)) ∧ Below W.heap.size W w') := ⟨fun W => isR_calls _ W (by omega)⟩
 unfold startOk at hyes
 simp only [Bool.and_eq_true] at hyes
 obtain ⟨e1, e2, e3, e4, e5, e6⟩ := hyes
 have HEV := Aside0.mk (all_ever (kinds_of e1))
 have hl8 := (defOk_len e1).2.1
 have hl1 := (defOk_len e1).1
 have hi1 : decide (id < 1) = false := by rw [lt_one, e2]; rfl
 have hi2 : decide (60 < id) = false := by rw [gt_of, e3]; rfl
 have hv1 : decide (version < 1) = false := by rw [lt_one, e5]; rfl
 have hv2 : decide (16 < version) = false := by rw [gt_of, e6]; rfl
 rw [e1] at hck
 rw [e4] at his
 have HA := Aside0.mk hS
 clear e1 e2 e3 e4 e5 e6 hnm hk hS hb
 obtain ⟨i3, hi3, hz3, hs3, hb3⟩ := info_parts int_info
 have HI := Aside0.mk (And.intro hi3 (And.intro hz3 (And.intro hs3 hb3)))
 have hmk : ∀ W, (Instr.makeSlice 25 (.int .i64 (l.length : Int)) (.int .i64 (l.length : Int))).run Tryz.prog W = .ok (.slice (some ⟨W.heap.size, 0, none⟩) l.length l.length) (W.alloc (.cells (madeCells #[.int .i64 0] l.length) 3)) := fun W => by
  have hr := run_make (P := Tryz.prog) W 25 3 i3 (.int .i64 0) Tryz.underlying25 hi3 hz3 .i64 .i64 l.length l.length (by omega) (Int.le_refl _) (by rw [hb3]; omega) (by omega)
  simp only [Int.toNat_natCast, hs3, Nat.mul_one] at hr
  exact hr
 clear hi3 hz3 hs3 hb3
 go_enter Tryz.func13, Tryz.ntmps13
 go_wp2_with (first | (go_at_call 20; refine (hck.out _ HS0.out.below).mono ?_; rintro e w1 ⟨⟨xa, xb, rfl, hxb⟩, hb1⟩; have hd1 : (xb != 0) = false := (by rw [bne, hxb]; rfl); have H1 := Aside0.mk (HS0.out.on hb1); clear hxb hb1; obtain ⟨hq0, hq1, hqf, hqr0, hqr1, hqr2, hqr3, hqr4, hqr5, hqr6, hqr7, hqr8, hqr9, hqr10⟩ := H1.out.cells) | (go_at_call 34; refine (his.out _).mono ?_; rintro e w2 ⟨rfl, hb2⟩; have H2 := Aside0.mk (H1.out.on hb2); clear hb2; obtain ⟨hr0, hr1, hrf, hrr0, hrr1, hrr2, hrr3, hrr4, hrr5, hrr6, hrr7, hrr8, hrr9, hrr10⟩ := H2.out.cells))
 clear hd1
 go_cut [13] (fun v13 wc => ∃ g bs, v13 = .pointer (some ⟨g, 0, none⟩) ∧ Sx w wc nm l A c ⟨id, key, nm, version, 1, 0, List.replicate l.length 0, fun _ => 0⟩ g bs l.length)
 case first =>
  go_region_held3 (fun w' => w'.cell? ⟨w.heap.size, 0, none⟩ = some (.string nm) ∧ w'.cell? ⟨w.heap.size, 1, none⟩ = some (.slice A l.length c)) (first | go_keep) (first | fail)
  · go_wp2_with fail
    go_meet
    have hlt := (Array.getElem?_eq_some_iff.1 H2.out.rbox).1
    refine ⟨_, _, rfl, ((?_ : Sx w _ nm l A c ⟨id, key, nm, version, 1, 0, List.replicate l.length 0, fun _ => 0⟩ (w2.heap.size + 1) w2.heap.size l.length).on (below_drew (Below.refl _ _)))⟩
    exact ⟨H2.out.on (on_ (below_one _ _) (below_one _ _)), alloc_two w2 _ _, by omega, own_on (own_zero w2 (by omega) (by omega)) (below_one _ _), ⟨by omega, by omega⟩⟩
  · go_wp2_with fail
    go_meet
    have hlt := (Array.getElem?_eq_some_iff.1 H2.out.rbox).1
    refine ⟨_, _, rfl, ((?_ : Sx w _ nm l A c ⟨id, key, nm, version, 1, 0, List.replicate l.length 0, fun _ => 0⟩ w2.heap.size (w2.heap.size + 1) l.length).on (below_drew (Below.refl _ _)))⟩
    have hsz : (w2.alloc (.cells #[.int .i64 id, .string key, .string nm, .int .i64 version, .int .i64 1, .int .i64 0, .slice (some ⟨w2.heap.size + 1, 0, none⟩) l.length l.length, .int .i64 0, .int .i64 0, .int .i64 0, .int .i64 0] 28)).heap.size = w2.heap.size + 1 := by
     show (w2.heap.push _).size = _
     simp
    have ho := own_zero (lo := w.heap.size) (n := l.length) (w2.alloc (.cells #[.int .i64 id, .string key, .string nm, .int .i64 version, .int .i64 1, .int .i64 0, .slice (some ⟨w2.heap.size + 1, 0, none⟩) l.length l.length, .int .i64 0, .int .i64 0, .int .i64 0, .int .i64 0] 28)) (by omega) (by omega)
    rw [hsz] at ho
    exact ⟨H2.out.on (on_ (below_one _ _) (below_one _ _)), row_on (below_one _ _) (alloc1 w2 _), hlt, ho, ⟨by omega, by omega⟩⟩
 case rest =>
  obtain ⟨g, bs, rfl, hX⟩ := hcut
  have HX := Aside0.mk hX
  clear H1 H2 HS0 hq0 hq1 hqf hqr0 hqr1 hqr2 hqr3 hqr4 hqr5 hqr6 hqr7 hqr8 hqr9 hqr10 hr0 hr1 hrf hrr0 hrr1 hrr2 hrr3 hrr4 hrr5 hrr6 hrr7 hrr8 hrr9 hrr10 hck his hmk
  obtain ⟨hd0, hd1, hx0, hx1, hx2, hx3, hx4, hx5, hx6, hx7, hx8, hx9, hx10⟩ := hX.cells
  have hha := Aside0.mk (fun W (h : Below w.heap.size w W) (kind : Int) => hasR_calls nm l A c kind W (HA.out.below h) (by omega))
  clear hX
  have HP : Aside0 (startX nm l id key version = ⟨id, key, nm, version, if (!hasR l 1 && !hasR l 2) = true then 3 else 1, 0, List.replicate l.length 0, fun _ => 0⟩) := ⟨by
   rw [← HEV.out]
   have HK : (((kindsL l 3 : Nat) : Int) == (l.length : Int)) = (kindsL l 3 == l.length) := by
    rw [Bool.eq_iff_iff, beq_iff_eq, beq_iff_eq]
    omega
   rw [HK]
   rfl⟩
  have hne := HX.out.lo
  generalize hh1 : hasR l 1 = b1 at *
  generalize hh2 : hasR l 2 = b2 at *
  replace hh1 := Aside0.mk hh1
  replace hh2 := Aside0.mk hh2
  rcases (by cases b1 <;> cases b2 <;> simp : b1 = true ∨ (b1 = false ∧ b2 = true) ∨ (b1 = false ∧ b2 = false)) with rfl | ⟨rfl, rfl⟩ | ⟨rfl, rfl⟩
  all_goals
   go_wp2_with (first | (go_at_call 35; have hg4 := H4; refine (hha.out _ H4.out.sw.below 2).mono ?_; rw [hh2.out]; rintro e w5 ⟨rfl, hb5⟩; have H5 := Aside0.mk (H4.out.on hb5); clear hb5; obtain ⟨hd0'', hd1'', hx0'', hx1'', hx2'', hx3'', hx4'', hx5'', hx6'', hx7'', hx8'', hx9'', hx10''⟩ := H5.out.cells; obtain ⟨hr0, hr1, hr2, hr3, hr4, hr5, hr6, hr7, hr8, hr9, hr10⟩ := H5.out.rcells; have hf4 := H5.out.free 4; have hrf := H5.out.rfree) | (go_at_call 35; refine (hha.out _ HX.out.sw.below 1).mono ?_; rw [hh1.out]; rintro e w4 ⟨rfl, hb4⟩; have H4 := Aside0.mk (HX.out.on hb4); clear hb4; obtain ⟨hd0', hd1', hx0', hx1', hx2', hx3', hx4', hx5', hx6', hx7', hx8', hx9', hx10'⟩ := H4.out.cells))
  · have hr := row11 H5.out.sw.rbox (.int .i64 id) (.string key) (.string nm) (.int .i64 version) (.int .i64 1) (.int .i64 0) (.slice (some ⟨bs, 0, none⟩) l.length l.length) (.int .i64 0) (.int .i64 0) (.int .i64 0) (.int .i64 0)
    have hq := H5.out.sw.filled (.int .i64 id) (.string key) (.string nm) (.int .i64 version) (.int .i64 1) (.int .i64 0) (.slice (some ⟨bs, 0, none⟩) l.length l.length) (.int .i64 0) (.int .i64 0) (.int .i64 0) (.int .i64 0)
    have ho := H5.out.filled (.int .i64 id) (.string key) (.string nm) (.int .i64 version) (.int .i64 1) (.int .i64 0) (.slice (some ⟨bs, 0, none⟩) l.length l.length) (.int .i64 0) (.int .i64 0) (.int .i64 0) (.int .i64 0)
    generalize World.setCell _ _ _ = U at hr hq ho ⊢
    refine bodyPost_ret (results_ct rfl _ _ (w.heap.size + 1) 28 _ (0, 0) _ rfl hr Tryz.underlying28 rfl (by kernel_rfl)) rfl ?_
    exact ⟨⟨_, by rw [HP.out]; rfl, ho⟩, hq⟩
  · have hr := row11 H5.out.sw.rbox (.int .i64 id) (.string key) (.string nm) (.int .i64 version) (.int .i64 1) (.int .i64 0) (.slice (some ⟨bs, 0, none⟩) l.length l.length) (.int .i64 0) (.int .i64 0) (.int .i64 0) (.int .i64 0)
    have hq := H5.out.sw.filled (.int .i64 id) (.string key) (.string nm) (.int .i64 version) (.int .i64 1) (.int .i64 0) (.slice (some ⟨bs, 0, none⟩) l.length l.length) (.int .i64 0) (.int .i64 0) (.int .i64 0) (.int .i64 0)
    have ho := H5.out.filled (.int .i64 id) (.string key) (.string nm) (.int .i64 version) (.int .i64 1) (.int .i64 0) (.slice (some ⟨bs, 0, none⟩) l.length l.length) (.int .i64 0) (.int .i64 0) (.int .i64 0) (.int .i64 0)
    generalize World.setCell _ _ _ = U at hr hq ho ⊢
    refine bodyPost_ret (results_ct rfl _ _ (w.heap.size + 1) 28 _ (0, 0) _ rfl hr Tryz.underlying28 rfl (by kernel_rfl)) rfl ?_
    exact ⟨⟨_, by rw [HP.out]; rfl, ho⟩, hq⟩
  · have HY := Aside0.mk (H5.out.setPh 3)
    have hr := row11 HY.out.sw.rbox (.int .i64 id) (.string key) (.string nm) (.int .i64 version) (.int .i64 3) (.int .i64 0) (.slice (some ⟨bs, 0, none⟩) l.length l.length) (.int .i64 0) (.int .i64 0) (.int .i64 0) (.int .i64 0)
    have hq := HY.out.sw.filled (.int .i64 id) (.string key) (.string nm) (.int .i64 version) (.int .i64 3) (.int .i64 0) (.slice (some ⟨bs, 0, none⟩) l.length l.length) (.int .i64 0) (.int .i64 0) (.int .i64 0) (.int .i64 0)
    have ho := HY.out.filled (.int .i64 id) (.string key) (.string nm) (.int .i64 version) (.int .i64 3) (.int .i64 0) (.slice (some ⟨bs, 0, none⟩) l.length l.length) (.int .i64 0) (.int .i64 0) (.int .i64 0) (.int .i64 0)
    generalize World.setCell _ _ _ = U at hr hq ho ⊢
    refine bodyPost_ret (results_ct rfl _ _ (w.heap.size + 1) 28 _ (0, 0) _ rfl hr Tryz.underlying28 rfl (by kernel_rfl)) rfl ?_
    exact ⟨⟨_, by rw [HP.out]; rfl, ho⟩, hq⟩
end Go.Proofs.YtgjddnaidjbhlaaGreatDoor.Ph

/- A definition that came in, read as plain data. -/
namespace Go.Proofs.YtgjddnaidjbhlaaGreatDoor.Opening
open Go.ChangeShapes Go.WideShapes Go.RowKit Go.Proofs.YtgjddnaidjbhlaaGreatDoorW.PrintWords Go.Proofs.YtgjddnaidjbhlaaGreatDoor.Pl

def DefK (w : World) (d : Def) (cs : List Value) : Prop := ∃ A c, cs = [.string d.name, .slice A d.steps.length c] ∧ d.steps.length ≤ c ∧ StepsAt w A d.steps
def DefB (d : Def) : Prop := d.name.size ≤ 140737488351232 ∧ (∀ s ∈ d.steps, StepB s) ∧ d.steps.length ≤ 9000000000000
theorem bytes9 : Tryz.prog.bytesOf 9 = 16 := by kernel_rfl
theorem bytes3 : Tryz.prog.bytesOf 3 = 8 := by kernel_rfl
theorem bytes35 : Tryz.prog.bytesOf 70 = 80 := by kernel_rfl
set_option maxRecDepth 100000 in
theorem opens_Step : OpensK Tryz.prog 70 StepK StepB := by
 refine ⟨fun enc w fuel cs x h hz => ?_⟩
 obtain ⟨hl, hf⟩ := fields Tryz.underlying70 h hz
 obtain ⟨a0, k0, b0⟩ := hf 0 _ rfl (.of (opens_string Tryz.underlying9))
 obtain ⟨a1, k1, b1⟩ := hf 1 _ rfl (.of (opens_int (k := .i64) Tryz.underlying3))
 obtain ⟨a2, k2, b2⟩ := hf 2 _ rfl (.of (opens_int (k := .i64) Tryz.underlying3))
 obtain ⟨a3, k3, b3⟩ := hf 3 _ rfl (.of (opens_slice Tryz.underlying53 (by kernel_rfl) (opens_string Tryz.underlying9)))
 obtain ⟨a4, k4, b4⟩ := hf 4 _ rfl (.of (opens_slice Tryz.underlying25 (by kernel_rfl) (opens_int (k := .i64) Tryz.underlying3)))
 have hn : cs.length = 5 := hl.trans (by kernel_rfl)
 obtain ⟨c0, r0, rfl, n0⟩ := cons_len hn
 obtain ⟨c1, r1, rfl, n1⟩ := cons_len n0
 obtain ⟨c2, r2, rfl, n2⟩ := cons_len n1
 obtain ⟨c3, r3, rfl, n3⟩ := cons_len n2
 obtain ⟨c4, r4, rfl, n4⟩ := cons_len n3
 obtain rfl := List.eq_nil_of_length_eq_zero n4
 replace k0 : [c0] = [.string a0] := k0
 cases k0
 replace k1 : [c1] = [.int .i64 a1] := k1
 cases k1
 replace k2 : [c2] = [.int .i64 a2] := k2
 cases k2
 obtain ⟨A3, d3, k3, hc3, hC3⟩ := k3
 replace k3 : [c3] = [.slice A3 a3.length d3] := k3
 cases k3
 obtain ⟨A4, d4, k4, hc4, hC4⟩ := k4
 replace k4 : [c4] = [.slice A4 a4.length d4] := k4
 cases k4
 refine ⟨⟨a0, a1, a2, a3, a4⟩, ⟨A3, d3, A4, d4, rfl, hc3, hC3, hc4, hC4⟩, ⟨b0, b1, b2, ⟨b3.1, ?_⟩, ⟨b4.1, ?_⟩⟩⟩
 · have := b3.2
   rw [bytes9] at this
   unfold reachBytes at this
   show a3.length ≤ _
   omega
 · have := b4.2
   rw [bytes3] at this
   unfold reachBytes at this
   show a4.length ≤ _
   omega
set_option maxRecDepth 100000 in
theorem opens_Def : OpensK Tryz.prog 24 DefK DefB := by
 refine ⟨fun enc w fuel cs x h hz => ?_⟩
 obtain ⟨hl, hf⟩ := fields Tryz.underlying24 h hz
 obtain ⟨a0, k0, b0⟩ := hf 0 _ rfl (.of (opens_string Tryz.underlying9))
 obtain ⟨a1, k1, b1⟩ := hf 1 _ rfl (K := fun w (l : List Step) cs => ∃ A c, cs = [.slice A l.length c] ∧ l.length ≤ c ∧ StepsAt w A l) (B := fun l => (∀ s ∈ l, StepB s) ∧ l.length * Tryz.prog.bytesOf 70 ≤ reachBytes) ⟨fun enc w fuel cs x hx hz => by
  obtain ⟨A, c, l, e, h1, h2, h3, h4⟩ := opensK_slice (sz := 5) Tryz.underlying22 (by kernel_rfl) opens_Step hx hz
  exact ⟨l, ⟨A, c, e, h1, h2⟩, h3, h4⟩⟩
 have hn : cs.length = 2 := hl.trans (by kernel_rfl)
 obtain ⟨c0, r0, rfl, n0⟩ := cons_len hn
 obtain ⟨c1, r1, rfl, n1⟩ := cons_len n0
 obtain rfl := List.eq_nil_of_length_eq_zero n1
 replace k0 : [c0] = [.string a0] := k0
 cases k0
 obtain ⟨A1, d1, k1, hc1, hC1⟩ := k1
 replace k1 : [c1] = [.slice A1 a1.length d1] := k1
 cases k1
 refine ⟨⟨a0, a1⟩, ⟨A1, d1, rfl, hc1, hC1⟩, b0, b1.1, ?_⟩
 have := b1.2
 rw [bytes35] at this
 unfold reachBytes at this
 show a1.length ≤ _
 omega
end Go.Proofs.YtgjddnaidjbhlaaGreatDoor.Opening

/- An instance, a note, a case that came in, read as plain data. -/
namespace Go.Proofs.YtgjddnaidjbhlaaGreatDoor.Opening
open Go.ChangeShapes Go.WideShapes Go.RowKit Go.Proofs.YtgjddnaidjbhlaaGreatDoorW.PrintWords Go.Proofs.YtgjddnaidjbhlaaGreatDoor.Pl Go.Proofs.YtgjddnaidjbhlaaGreatDoor.Ph

theorem array_of {H : Type} {enc : TypeId × Value → H} {P : Program} {t e : TypeId} {n : Nat} {w : World} {fuel : Nat} {cs : List Value} {x : DataW H × List MemPlace} (ht : P.underlying t = some (.array n e))
 (h : DataW.trod enc P w 0 (fun _ => true) true fuel t cs = some x) (hz : (x.1.weights P t).all (· ≤ reachBytes) = true) :
 cs.length = P.cellsOf t ∧ ∀ i, i < n → ∀ {α : Type} {K : World → α → List Value → Prop} {B : α → Prop}, OpensK P e K B → ∃ a, K w a ((cs.drop (i * P.cellsOf e)).take (P.cellsOf e)) ∧ B a := by
 obtain ⟨xs, m, rfl, rfl, hl, hlen, hf⟩ := DataW.trod_array ht h
 refine ⟨hl, fun i hi α K B o => ?_⟩
 have h1 := hf i hi
 have hlt : i < xs.length := by omega
 rw [List.getElem?_eq_getElem hlt] at h1
 refine o.op enc w m _ _ h1 ?_
 rw [List.all_eq_true] at hz ⊢
 intro k hk
 refine hz k ?_
 simp only [DataW.weights, ht]
 exact weights_all _ _ (List.mem_map.2 ⟨_, List.getElem_mem hlt, rfl⟩) k hk
def FourK (_ : World) (f : Nat → Int) (cs : List Value) : Prop := cs = [.int .i64 (f 0), .int .i64 (f 1), .int .i64 (f 2), .int .i64 (f 3)]
def FourB (f : Nat → Int) : Prop := ∀ p, p < 4 → (Lit.int .i64 (f p)).wf = true
set_option maxRecDepth 100000 in
theorem opens_Four : OpensK Tryz.prog 26 FourK FourB := by
 refine ⟨fun enc w fuel cs x h hz => ?_⟩
 obtain ⟨hl, hf⟩ := array_of Tryz.underlying26 h hz
 have o := OpensK.of (opens_int (k := .i64) Tryz.underlying3)
 obtain ⟨a0, k0, b0⟩ := hf 0 (by decide) o
 obtain ⟨a1, k1, b1⟩ := hf 1 (by decide) o
 obtain ⟨a2, k2, b2⟩ := hf 2 (by decide) o
 obtain ⟨a3, k3, b3⟩ := hf 3 (by decide) o
 have hn : cs.length = 4 := hl.trans (by kernel_rfl)
 obtain ⟨c0, r0, rfl, n0⟩ := cons_len hn
 obtain ⟨c1, r1, rfl, n1⟩ := cons_len n0
 obtain ⟨c2, r2, rfl, n2⟩ := cons_len n1
 obtain ⟨c3, r3, rfl, n3⟩ := cons_len n2
 obtain rfl := List.eq_nil_of_length_eq_zero n3
 replace k0 : [c0] = [.int .i64 a0] := k0
 cases k0
 replace k1 : [c1] = [.int .i64 a1] := k1
 cases k1
 replace k2 : [c2] = [.int .i64 a2] := k2
 cases k2
 replace k3 : [c3] = [.int .i64 a3] := k3
 cases k3
 refine ⟨fun p => if p = 0 then a0 else if p = 1 then a1 else if p = 2 then a2 else a3, rfl, fun p hp => ?_⟩
 have h4 : p = 0 ∨ p = 1 ∨ p = 2 ∨ p = 3 := by omega
 rcases h4 with rfl | rfl | rfl | rfl
 · exact b0
 · exact b1
 · exact b2
 · exact b3

/-- An instance's cells; what every reading bounds. -/
def InstK (w : World) (x : Inst) (cs : List Value) : Prop := ∃ B c, cs = [.int .i64 x.id, .string x.key, .string x.name, .int .i64 x.version, .int .i64 x.phase, .int .i64 x.cause, .slice B x.steps.length c, .int .i64 (x.freed 0), .int .i64 (x.freed 1), .int .i64 (x.freed 2), .int .i64 (x.freed 3)] ∧ x.steps.length ≤ c ∧ Kd.C (Kd.int .i64) w B x.steps.length x.steps
structure InstB (x : Inst) : Prop where
 id : (Lit.int .i64 x.id).wf = true
 key : x.key.size ≤ 140737488351232
 name : x.name.size ≤ 140737488351232
 version : (Lit.int .i64 x.version).wf = true
 phase : (Lit.int .i64 x.phase).wf = true
 cause : (Lit.int .i64 x.cause).wf = true
 each : ∀ s ∈ x.steps, (Lit.int .i64 s).wf = true
 len : x.steps.length ≤ 17592186044416
 freed : ∀ p, p < 4 → (Lit.int .i64 (x.freed p)).wf = true
set_option maxRecDepth 100000 in
theorem opens_Inst : OpensK Tryz.prog 28 InstK InstB := by
 refine ⟨fun enc w fuel cs x h hz => ?_⟩
 obtain ⟨hl, hf⟩ := fields Tryz.underlying28 h hz
 obtain ⟨a0, k0, b0⟩ := hf 0 _ rfl (.of (opens_int (k := .i64) Tryz.underlying3))
 obtain ⟨a1, k1, b1⟩ := hf 1 _ rfl (.of (opens_string Tryz.underlying9))
 obtain ⟨a2, k2, b2⟩ := hf 2 _ rfl (.of (opens_string Tryz.underlying9))
 obtain ⟨a3, k3, b3⟩ := hf 3 _ rfl (.of (opens_int (k := .i64) Tryz.underlying3))
 obtain ⟨a4, k4, b4⟩ := hf 4 _ rfl (.of (opens_int (k := .i64) Tryz.underlying3))
 obtain ⟨a5, k5, b5⟩ := hf 5 _ rfl (.of (opens_int (k := .i64) Tryz.underlying3))
 obtain ⟨a6, k6, b6⟩ := hf 6 _ rfl (.of (opens_slice Tryz.underlying25 (by kernel_rfl) (opens_int (k := .i64) Tryz.underlying3)))
 obtain ⟨a7, k7, b7⟩ := hf 7 _ rfl opens_Four
 have hn : cs.length = 11 := hl.trans (by kernel_rfl)
 obtain ⟨c0, r0, rfl, n0⟩ := cons_len hn
 obtain ⟨c1, r1, rfl, n1⟩ := cons_len n0
 obtain ⟨c2, r2, rfl, n2⟩ := cons_len n1
 obtain ⟨c3, r3, rfl, n3⟩ := cons_len n2
 obtain ⟨c4, r4, rfl, n4⟩ := cons_len n3
 obtain ⟨c5, r5, rfl, n5⟩ := cons_len n4
 obtain ⟨c6, r6, rfl, n6⟩ := cons_len n5
 obtain ⟨c7, r7, rfl, n7⟩ := cons_len n6
 obtain ⟨c8, r8, rfl, n8⟩ := cons_len n7
 obtain ⟨c9, r9, rfl, n9⟩ := cons_len n8
 obtain ⟨c10, r10, rfl, n10⟩ := cons_len n9
 obtain rfl := List.eq_nil_of_length_eq_zero n10
 replace k0 : [c0] = [.int .i64 a0] := k0
 cases k0
 replace k1 : [c1] = [.string a1] := k1
 cases k1
 replace k2 : [c2] = [.string a2] := k2
 cases k2
 replace k3 : [c3] = [.int .i64 a3] := k3
 cases k3
 replace k4 : [c4] = [.int .i64 a4] := k4
 cases k4
 replace k5 : [c5] = [.int .i64 a5] := k5
 cases k5
 obtain ⟨A6, d6, k6, hc6, hC6⟩ := k6
 replace k6 : [c6] = [.slice A6 a6.length d6] := k6
 cases k6
 replace k7 : [c7, c8, c9, c10] = [.int .i64 (a7 0), .int .i64 (a7 1), .int .i64 (a7 2), .int .i64 (a7 3)] := k7
 cases k7
 refine ⟨⟨a0, a1, a2, a3, a4, a5, a6, a7⟩, ⟨A6, d6, rfl, hc6, hC6⟩, ⟨b0, b1, b2, b3, b4, b5, b6.1, ?_, b7⟩⟩
 have := b6.2
 rw [bytes3] at this
 unfold reachBytes at this
 show a6.length ≤ _
 omega

end Go.Proofs.YtgjddnaidjbhlaaGreatDoor.Opening

/- PhaseStarts, at what came in (P19): walked by hand. -/
namespace Go.Proofs.YtgjddnaidjbhlaaGreatDoor.Ph
open Go.RowKit Go.IntWalk Go.Proofs.YtgjddnaidjbhlaaGreatDoorW.PrintWords Go.Proofs.YtgjddnaidjbhlaaGreatDoorW.PrintLast Go.Proofs.YtgjddnaidjbhlaaGreatDoorW.PrintMore Go.Proofs.YtgjddnaidjbhlaaGreatDoor.PlName Go.Proofs.YtgjddnaidjbhlaaGreatDoor.Pl

/-- What a start gives, and its error. -/
noncomputable def startR (nm : ByteArray) (l : List Step) (id : Int) (key : ByteArray) (version : Int) : Inst := if startOk nm l id key version then startX nm l id key version else nullX
noncomputable def startE (nm : ByteArray) (l : List Step) (id : Int) (key : ByteArray) (version : Int) : Int := if startOk nm l id key version then 0 else 1
theorem startR_len (nm : ByteArray) (l : List Step) (id : Int) (key : ByteArray) (version : Int) (hn : l.length ≤ 9000000000000) : (startR nm l id key version).steps.length ≤ 17592186044416 := by
 unfold startR
 cases startOk nm l id key version
 · exact Nat.zero_le _
 · show (startX nm l id key version).steps.length ≤ _
   simp [startX]
   omega
def Starts (f : FuncId) (nm : ByteArray) (l : List Step) (A : Option Addr) (c : Nat) (id : Int) (key : ByteArray) (version : Int) (r : Inst) (code : Int) (w : World) : Prop :=
 Calls Tryz.prog f #[.agg #[.string nm, .slice A l.length c], .int .i64 id, .string key, .int .i64 version] w fun e w' => (∃ B1 c1, e = .returned (.tuple #[.agg #[.int .i64 r.id, .string r.key, .string r.name, .int .i64 r.version, .int .i64 r.phase, .int .i64 r.cause, .slice B1 r.steps.length c1, .int .i64 (r.freed 0), .int .i64 (r.freed 1), .int .i64 (r.freed 2), .int .i64 (r.freed 3)], .int .i64 code]) ∧ Kd.C (Kd.int .i64) w' B1 r.steps.length r.steps) ∧ Below w.heap.size w w'
theorem starts_of {f : FuncId} {nm : ByteArray} {l : List Step} {A : Option Addr} {c : Nat} {id : Int} {key : ByteArray} {version : Int} {w : World}
 (hno : startOk nm l id key version = false → Calls Tryz.prog f #[.agg #[.string nm, .slice A l.length c], .int .i64 id, .string key, .int .i64 version] w fun e w' => e = .returned (.tuple #[instV nullX (.slice none 0 0), .int .i64 1]) ∧ Below w.heap.size w w')
 (hyes : startOk nm l id key version = true → Calls Tryz.prog f #[.agg #[.string nm, .slice A l.length c], .int .i64 id, .string key, .int .i64 version] w fun e w' => (∃ v, e = .returned (.tuple #[instV (startX nm l id key version) v, .int .i64 0]) ∧ OwnI w' w.heap.size v (List.replicate l.length 0)) ∧ Below w.heap.size w w') :
 Starts f nm l A c id key version (startR nm l id key version) (startE nm l id key version) w := by
 cases h : startOk nm l id key version
 · have hr : startR nm l id key version = nullX := by simp [startR, h]
   have he : startE nm l id key version = 1 := by simp [startE, h]
   rw [hr, he]
   refine (hno h).mono ?_
   rintro e w' ⟨rfl, hb⟩
   exact ⟨⟨none, 0, rfl, cnil _ _ none⟩, hb⟩
 · have hr : startR nm l id key version = startX nm l id key version := by simp [startR, h]
   have he : startE nm l id key version = 0 := by simp [startE, h]
   rw [hr, he]
   refine (hyes h).mono ?_
   rintro e w' ⟨⟨v, rfl, ho⟩, hb⟩
   obtain ⟨B1, c1, rfl, _, hC⟩ := ho.reads
   exact ⟨⟨B1, c1, rfl, hC⟩, hb⟩
/-- The worlds of PhaseStarts: a definition and an instance in boxes. -/
structure Ps (w W : World) (nm : ByteArray) (l : List Step) (A : Option Addr) (c : Nat) (x : Inst) (B : Option Addr) (cb : Nat) : Prop where
 below : Below w.heap.size w W
 dbox : W.heap[w.heap.size]? = some (.cells #[.string nm, .slice A l.length c] 24 (0, 0))
 xbox : W.heap[w.heap.size + 1]? = some (.cells #[.int .i64 x.id, .string x.key, .string x.name, .int .i64 x.version, .int .i64 x.phase, .int .i64 x.cause, .slice B x.steps.length cb, .int .i64 (x.freed 0), .int .i64 (x.freed 1), .int .i64 (x.freed 2), .int .i64 (x.freed 3)] 28 (0, 0))
theorem Ps.on {w W W2 : World} {nm : ByteArray} {l : List Step} {A : Option Addr} {c : Nat} {x : Inst} {B : Option Addr} {cb : Nat} (h : Ps w W nm l A c x B cb) (hb : Below W.heap.size W W2) : Ps w W2 nm l A c x B cb := ⟨on_ h.below hb, row_on hb h.dbox, row_on hb h.xbox⟩
theorem Ps.cells {w W : World} {nm : ByteArray} {l : List Step} {A : Option Addr} {c : Nat} {x : Inst} {B : Option Addr} {cb : Nat} (h : Ps w W nm l A c x B cb) : W.cell? ⟨w.heap.size, 0, none⟩ = some (.string nm) ∧ W.cell? ⟨w.heap.size, 1, none⟩ = some (.slice A l.length c) ∧ W.cell? ⟨w.heap.size + 1, 1, none⟩ = some (.string x.key) ∧ W.cell? ⟨w.heap.size + 1, 3, none⟩ = some (.int .i64 x.version) := ⟨row_cell h.dbox rfl, row_cell h.dbox rfl, row_cell h.xbox rfl, row_cell h.xbox rfl⟩
theorem cells11 {W : World} {g : Nat} {v0 v1 v2 v3 v4 v5 v6 v7 v8 v9 v10 : Value} (h : W.heap[g]? = some (.cells #[v0, v1, v2, v3, v4, v5, v6, v7, v8, v9, v10] 28 (0, 0))) : W.cell? ⟨g, 0, none⟩ = some v0 ∧ W.cell? ⟨g, 1, none⟩ = some v1 ∧ W.cell? ⟨g, 2, none⟩ = some v2 ∧ W.cell? ⟨g, 3, none⟩ = some v3 ∧ W.cell? ⟨g, 4, none⟩ = some v4 ∧ W.cell? ⟨g, 5, none⟩ = some v5 ∧ W.cell? ⟨g, 6, none⟩ = some v6 ∧ W.cell? ⟨g, 7, none⟩ = some v7 ∧ W.cell? ⟨g, 8, none⟩ = some v8 ∧ W.cell? ⟨g, 9, none⟩ = some v9 ∧ W.cell? ⟨g, 10, none⟩ = some v10 := ⟨row_cell h rfl, row_cell h rfl, row_cell h rfl, row_cell h rfl, row_cell h rfl, row_cell h rfl, row_cell h rfl, row_cell h rfl, row_cell h rfl, row_cell h rfl, row_cell h rfl⟩
set_option maxHeartbeats 16000000 in
set_option maxRecDepth 100000 in
theorem phaseStarts_calls (nm : ByteArray) (l : List Step) (A : Option Addr) (c : Nat) (x : Inst) (B : Option Addr) (cb : Nat) (id : Int) (w : World) (hnm : nm.size ≤ 140737488351232) (hk : x.key.size ≤ 140737488351232) (hS : StepsAt w A l) (hb : ∀ s ∈ l, StepB s) (hn : l.length ≤ 9000000000000) (hc : l.length ≤ c) (hT : TabsAt w) :
 Calls Tryz.prog 3 #[.agg #[.string nm, .slice A l.length c], .int .i64 id, .agg #[.int .i64 x.id, .string x.key, .string x.name, .int .i64 x.version, .int .i64 x.phase, .int .i64 x.cause, .slice B x.steps.length cb, .int .i64 (x.freed 0), .int .i64 (x.freed 1), .int .i64 (x.freed 2), .int .i64 (x.freed 3)]] w fun e w' => e = .returned (.bool true) ∧ Below w.heap.size w w' := by
 have HV : Aside0 (Ps w ((w.alloc (.cells #[.string nm, .slice A l.length c] 24)).alloc (.cells #[.int .i64 x.id, .string x.key, .string x.name, .int .i64 x.version, .int .i64 x.phase, .int .i64 x.cause, .slice B x.steps.length cb, .int .i64 (x.freed 0), .int .i64 (x.freed 1), .int .i64 (x.freed 2), .int .i64 (x.freed 3)] 28)) nm l A c x B cb) := ⟨on_ (below_one _ _) (below_one _ _), row_on (below_one _ _) (alloc1 w _), alloc_two w _ _⟩
 have hrl := Aside0.mk (startR_len nm l id x.key x.version hn)
 have hs1 := Aside0.mk (fun W (h : Below w.heap.size w W) => starts_of (f := 12) (A := A) (c := c) (w := W) (fun e => start_no nm l A c id x.key x.version W hnm hk (hS.below h) hb hn hc (tabs_on hT h) e) (fun e => start_yes nm l A c id x.key x.version W hnm hk (hS.below h) hb hn hc (tabs_on hT h) e))
 have hs2 := Aside0.mk (fun W (h : Below w.heap.size w W) => starts_of (f := 13) (A := A) (c := c) (w := W) (fun e => startR_no nm l A c id x.key x.version W hnm hk (hS.below h) hb hn hc e) (fun e => startR_yes nm l A c id x.key x.version W hnm hk (hS.below h) hb hn hc e))
 have hlv := Aside0.mk (fun W (h : Below w.heap.size w W) => live_calls W (tabs_on hT h))
 generalize startR nm l id x.key x.version = r at *
 generalize startE nm l id x.key x.version = code at *
 have hcc : (code == code) = true := beq_self_eq_true _
 clear hnm hk hS hb hT
 go_enter Tryz.func3, Tryz.ntmps3
 go_upto_region 1 with fail
 generalize World.alloc (World.alloc w _) _ = w0 at *
 obtain ⟨hd0, hd1, hx1, hx3⟩ := HV.out.cells
 go_upto_region 2 with (go_at_call 12; refine (hs1.out _ HV.out.below).mono ?_; rintro e w1 ⟨⟨B1, c1, rfl, hC1⟩, hb1⟩; have H1 := Aside0.mk (And.intro (HV.out.on hb1) hC1); clear hb1 hC1)
 have HL1 := Aside0.mk (And.intro (H1.out.1.on (below_one w1 (.cells #[.int .i64 r.id, .string r.key, .string r.name, .int .i64 r.version, .int .i64 r.phase, .int .i64 r.cause, .slice B1 r.steps.length c1, .int .i64 (r.freed 0), .int .i64 (r.freed 1), .int .i64 (r.freed 2), .int .i64 (r.freed 3)] 28))) (And.intro (Kd.C_below H1.out.2 (below_one w1 (.cells #[.int .i64 r.id, .string r.key, .string r.name, .int .i64 r.version, .int .i64 r.phase, .int .i64 r.cause, .slice B1 r.steps.length c1, .int .i64 (r.freed 0), .int .i64 (r.freed 1), .int .i64 (r.freed 2), .int .i64 (r.freed 3)] 28))) (alloc1 w1 (.cells #[.int .i64 r.id, .string r.key, .string r.name, .int .i64 r.version, .int .i64 r.phase, .int .i64 r.cause, .slice B1 r.steps.length c1, .int .i64 (r.freed 0), .int .i64 (r.freed 1), .int .i64 (r.freed 2), .int .i64 (r.freed 3)] 28))))
 generalize w1.heap.size = g1 at *
 generalize World.alloc w1 _ = w2 at *
 clear hd0 hd1 hx1 hx3 H1
 obtain ⟨hd0, hd1, hx1, hx3⟩ := HL1.out.1.cells
 go_upto_region 3 with (go_at_call 13; refine (hs2.out _ HL1.out.1.below).mono ?_; rintro e w3 ⟨⟨B2, c2, rfl, hC2⟩, hb3⟩; have H3 := Aside0.mk (And.intro (HL1.out.1.on hb3) (And.intro (Kd.C_below HL1.out.2.1 hb3) (And.intro (row_on hb3 HL1.out.2.2) hC2))); clear hb3 hC2)
 have HL3 := Aside0.mk (And.intro (H3.out.1.on (below_one w3 (.cells #[.int .i64 r.id, .string r.key, .string r.name, .int .i64 r.version, .int .i64 r.phase, .int .i64 r.cause, .slice B2 r.steps.length c2, .int .i64 (r.freed 0), .int .i64 (r.freed 1), .int .i64 (r.freed 2), .int .i64 (r.freed 3)] 28))) (And.intro (Kd.C_below H3.out.2.1 (below_one w3 (.cells #[.int .i64 r.id, .string r.key, .string r.name, .int .i64 r.version, .int .i64 r.phase, .int .i64 r.cause, .slice B2 r.steps.length c2, .int .i64 (r.freed 0), .int .i64 (r.freed 1), .int .i64 (r.freed 2), .int .i64 (r.freed 3)] 28))) (And.intro (row_on (below_one w3 (.cells #[.int .i64 r.id, .string r.key, .string r.name, .int .i64 r.version, .int .i64 r.phase, .int .i64 r.cause, .slice B2 r.steps.length c2, .int .i64 (r.freed 0), .int .i64 (r.freed 1), .int .i64 (r.freed 2), .int .i64 (r.freed 3)] 28)) H3.out.2.2.1) (And.intro (Kd.C_below H3.out.2.2.2 (below_one w3 (.cells #[.int .i64 r.id, .string r.key, .string r.name, .int .i64 r.version, .int .i64 r.phase, .int .i64 r.cause, .slice B2 r.steps.length c2, .int .i64 (r.freed 0), .int .i64 (r.freed 1), .int .i64 (r.freed 2), .int .i64 (r.freed 3)] 28))) (alloc1 w3 (.cells #[.int .i64 r.id, .string r.key, .string r.name, .int .i64 r.version, .int .i64 r.phase, .int .i64 r.cause, .slice B2 r.steps.length c2, .int .i64 (r.freed 0), .int .i64 (r.freed 1), .int .i64 (r.freed 2), .int .i64 (r.freed 3)] 28))))))
 generalize w3.heap.size = g3 at *
 generalize World.alloc w3 _ = w4 at *
 clear hd0 hd1 hx1 hx3 H3 HL1
 obtain ⟨hy0, hy1, hy2, hy3, hy4, hy5, hy6, hy7, hy8, hy9, hy10⟩ := cells11 HL3.out.2.2.1
 obtain ⟨hz0, hz1, hz2, hz3, hz4, hz5, hz6, hz7, hz8, hz9, hz10⟩ := cells11 HL3.out.2.2.2.2
 have hsm := Aside0.mk (Same_calls r B1 c1 B2 c2 w4 HL3.out.2.1 HL3.out.2.2.2.1 hrl.out)
 go_wp2_with (first | (go_at_call 14; refine hsm.out.mono ?_; rintro e w5 ⟨rfl, hb5⟩; have H5 := Aside0.mk (on_ HL3.out.1.below hb5); clear hb5) | (go_at_call 15; refine (hlv.out _ H5.out).mono ?_; rintro e w6 ⟨rfl, hb6⟩; have H6 := Aside0.mk (on_ H5.out hb6); clear hb6))
 go_ret
 exact ⟨rfl, H6.out⟩
theorem walkStarts (cs0 : Array Value) (a0 : Def) (a1 : Int) (cs2 : Array Value) (a2 : Inst) (w : World) (hK0 : Opening.DefK w a0 cs0.toList) (w0 : Opening.DefB a0) (_w1 : (Lit.int .i64 a1).wf = true) (hK2 : Opening.InstK w a2 cs2.toList) (w2 : Opening.InstB a2) (hT : PlName.TabsAt w) :
 Calls Tryz.prog 3 #[.agg cs0, .int .i64 a1, .agg cs2] w fun e w' => e = .returned (.bool true) ∧ Below w.heap.size w w' := by
 obtain ⟨A, c, e, hc, hS⟩ := hK0
 obtain ⟨B, cb, e2, _, _⟩ := hK2
 obtain rfl : cs0 = _ := by
  cases cs0
  exact congrArg Array.mk e
 obtain rfl : cs2 = _ := by
  cases cs2
  exact congrArg Array.mk e2
 obtain ⟨b1, b2, b3⟩ := w0
 exact phaseStarts_calls a0.name a0.steps A c a2 B cb a1 w b1 w2.key hS b2 b3 hc hT
end Go.Proofs.YtgjddnaidjbhlaaGreatDoor.Ph

/- The tables of unicode/utf8, as the row lists them. -/
namespace Go.Proofs.YtgjddnaidjbhlaaGreatDoor.Pl
open Go.RowKit Go.Lib

abbrev laids : List (String × DataW Unit) := [("unicode/utf8.acceptRanges", Rows.laid_unicode_utf8_acceptRanges), ("unicode/utf8.first", Rows.laid_unicode_utf8_first)]
theorem u8extra : U8Extra Tryz.prog Tryz.lays260_ren := ⟨by kernel_rfl, by kernel_rfl, by kernel_rfl, by kernel_rfl, by kernel_rfl, by kernel_rfl, by kernel_rfl⟩
theorem tabs_laid {W : World} (h : laidMetH Tryz.prog laids W) : PlName.TabsAt W := by
 rw [MakeChecks.laidMetH_plain _ _ _ (by kernel_rfl)] at h
 have h4 := laidMet.reads h (n := "unicode/utf8.acceptRanges") (d := Rows.laid_unicode_utf8_acceptRanges) (List.mem_cons_self)
 have h3 := laidMet.reads h (n := "unicode/utf8.first") (d := Rows.laid_unicode_utf8_first) (List.mem_cons_of_mem _ List.mem_cons_self)
 rw [show Rows.laid_unicode_utf8_acceptRanges = acceptData by kernel_rfl] at h4
 rw [show Rows.laid_unicode_utf8_first = firstData by kernel_rfl] at h3
 exact utf8Tabs_of_reads Tryz.lays260 u8extra h3 h4
theorem door_met (os : Os) (args : Array Value) : laidMetH Tryz.prog laids ((World.laidAll Tryz.prog os laids).forCall (fun _ _ => 0) ⟨#[], args, []⟩).memory := by
 rw [MakeChecks.laidMetH_plain _ _ _ (by kernel_rfl)]
 exact laidMet_laidAll _ (by kernel_rfl) (by kernel_rfl)
theorem own : ownKnob Tryz.prog.godebug = none := by kernel_rfl
theorem laidOut : laidOutB Tryz.prog = true := by kernel_rfl
end Go.Proofs.YtgjddnaidjbhlaaGreatDoor.Pl

/- The row of the law PhaseStarts, out of its walk. -/
namespace Go.Proofs.YtgjddnaidjbhlaaGreatDoor.phaseStarts
open Go.ChangeShapes Go.WideShapes Go.ChangeAt Go.RowKit
open Go.ChangeMaps (open_string shut_string)
theorem laidOut : laidOutB Tryz.prog = true := Pl.laidOut
set_option maxRecDepth 100000 in
theorem lifted (os : Os) (started : os.Started) (H : Type) (enc : TypeId × Value → H) :
 ReturnsInHanded {} Tryz.checked os 3 .any (fun w args => (Rows.phaseStartsSpec.pre enc Tryz.prog Tryz.f3 Rows.phaseStartsRow.domain false w args ∧ laidMetH Tryz.prog Pl.laids w) ∧ sizedMet enc Tryz.prog Tryz.f3 (OpenSpec.ofChange Rows.phaseStartsSpec) false w args) (Rows.phaseStartsSpec.post enc Tryz.prog Tryz.f3 false true false false) := by
 refine returnsInHanded_of_change_and (C := Tryz.checked) (X := fun w _ => laidMetH Tryz.prog Pl.laids w) (fun _ _ _ hh h => h.of_heap hh) Pl.own started (by kernel_rfl) Tryz.func3
  (ChangeSpec.witness_shaped (enc := enc) (C := Tryz.checked) (os := os) (X := fun w _ => laidMetH Tryz.prog Pl.laids w) false (World.laidAll Tryz.prog os Pl.laids) #[.agg #[(.string ByteArray.empty), (.slice none 0 0)], .int .i64 0, .agg #[(.int .i64 0), (.string ByteArray.empty), (.string ByteArray.empty), (.int .i64 0), (.int .i64 0), (.int .i64 0), (.slice none 0 0), (.int .i64 0), (.int .i64 0), (.int .i64 0), (.int .i64 0)]] 8 (World.laidAll_os _ _ _) (World.shaped_of_ZipB (by kernel_rfl) (by kernel_rfl)) (by kernel_rfl) (by kernel_rfl) (by kernel_rfl) (Pl.door_met os _)) ?_
 intro W base args ds gs before hval0 hW hcnd hsz0 hL _
 have hsz : (DataW.weightsEach Tryz.prog (Tryz.f3.params.toList ++ Rows.phaseStartsSpec.plain.varTypes Tryz.prog) (ds ++ gs)).all (· ≤ reachBytes) = true := hsz0
 have hval : ∀ (j : Nat) t v, Tryz.f3.params[j]? = some t → args[j]? = some v → Value.okWide Tryz.prog W .any base t v := hval0
 have hW' := hW
 obtain ⟨p, q, hA0, hV, rfl, hfz, hnd⟩ := hW
 have hA : DataW.TrodAll enc Tryz.prog W 0 (fun _ => true) true Tryz.f3.params.toList args.toList ds p := hA0
 rw [Tryz.params3] at hA hval hsz
 obtain ⟨v0, vs0, d0, ds0, p0, q0, hargs, rfl, rfl, h0, r0⟩ := trodAll_cons hA
 obtain ⟨v1, vs1, d1, ds1, p1, q1, rfl, rfl, rfl, h1, r1⟩ := trodAll_cons r0
 obtain ⟨v2, vs2, d2, ds2, p2, q2, rfl, rfl, rfl, h2, r2⟩ := trodAll_cons r1
 obtain ⟨rfl, rfl, rfl⟩ := trodAll_nil r2
 obtain rfl : args = #[v0, v1, v2] := by cases args; simp_all
 obtain ⟨rfl, rfl⟩ := trodVars_none hV
 have k0 := h0
 have lt0 : ∀ x ∈ p0, x.block < W.heap.size := by obtain ⟨m, hm⟩ := k0; exact DataW.trod_lt m _ _ _ hm
 obtain ⟨cs0, rfl, hs0⟩ := okWide_struct Tryz.underlying24 (hval 0 24 v0 rfl rfl)
 obtain ⟨a0, hK0, w0⟩ := Opening.openedK Opening.opens_Def hsz (j := 0) (t := 24) rfl rfl h0
 obtain ⟨a1, rfl, rfl, rfl, w1⟩ := open_int Tryz.underlying3 (hval 1 3 v1 rfl rfl) h1
 have k2 := h2
 have lt2 : ∀ x ∈ p2, x.block < W.heap.size := by obtain ⟨m, hm⟩ := k2; exact DataW.trod_lt m _ _ _ hm
 obtain ⟨cs2, rfl, hs2⟩ := okWide_struct Tryz.underlying28 (hval 2 28 v2 rfl rfl)
 obtain ⟨a2, hK2, w2⟩ := Opening.openedK Opening.opens_Inst hsz (j := 2) (t := 28) rfl rfl h2
 clear hA0 hval0 hsz0 hsz
 refine (Ph.walkStarts cs0 a0 a1 cs2 a2 W hK0 w0 w1 hK2 w2 (Pl.tabs_laid hL)).mono fun e W' ⟨he, bel⟩ => ?_
 subst he
 exact ⟨_, rfl, _, _, _, [], _, [], hW', trodAll_mk1 (shut_bool Tryz.underlying4 _), (trodAll_cons_mk (Below.trod laidOut (by kernel_rfl) (of_decide_eq_true (by kernel_rfl)) k0 bel lt0) (trodAll_cons_mk (shut_int Tryz.underlying3 w1) (trodAll_cons_mk (Below.trod laidOut (by kernel_rfl) (of_decide_eq_true (by kernel_rfl)) k2 bel lt2) trodAll_mk0))), rfl, bel.frame _, fun h => by cases h⟩
theorem over : Rows.phaseStartsRow.holds Tryz.pinned (OpenSpec.ofChange Rows.phaseStartsSpec) :=
 OpenClaim.holds_of_wide 3 Tryz.f3 rfl rfl rfl rfl rfl rfl rfl ⟨rfl, rfl, rfl, rfl, rfl⟩ rfl rfl rfl rfl rfl (by kernel_rfl) Tryz.func3 (by kernel_rfl)
  (of_decide_eq_true (by kernel_rfl)) (by unfold Func.isWrapper; first | (rw [if_pos (by decide +kernel)]; kernel_rfl) | (rw [if_neg (by decide +kernel)]; exact ⟨rfl, rfl⟩))
  (fun os started H enc _ => lifted os started H enc)
theorem proved : Rows.PhaseStartsSaid := over
#print axioms proved
end Go.Proofs.YtgjddnaidjbhlaaGreatDoor.phaseStarts
namespace Go.Proofs.YtgjddnaidjbhlaaGreatDoor
theorem phaseStarts_row : Rows.PhaseStartsSaid := phaseStarts.proved
/-- The tied card, under a short name, for the claim. -/
theorem phaseStarts_holds : Rows.PhaseStartsCardSaid :=
 Claim7.holds_tied_plain_at .later [] [.data, .pinned] true (true, "1c46561711e840037c0b909f97a160981e9e3c0b2c2a35e69b1251962a15cf29") false phaseStarts_row (fun _ h => by cases h) (by kernel_rfl) (fun _ h => by cases h) phaseStarts_row_tie rfl ⟨rfl, rfl⟩ (by kernel_rfl) rfl
  (fun f fn hf hfn => by
   obtain rfl : f = 3 := Option.some.inj ((show Tryz.prog.funcNamed "odyssey/odysseylaw19.PhaseStarts" = some 3 by kernel_rfl).symm.trans hf) |>.symm
   obtain rfl : fn = Tryz.f3 := (Option.some.inj (Tryz.func3.symm.trans hfn)).symm
   exact ⟨by kernel_rfl, fun j t ht => by
    rw [Tryz.params3] at ht
    have hm : t ∈ [24, 3, 28] := by simpa using Array.mem_of_getElem? ht
    have hall : ([24, 3, 28].all fun u => !Tryz.prog.wantsStandIn u) = true := by kernel_rfl
    exact (show Tryz.prog.wantsStandIn t = false by simpa using List.all_eq_true.1 hall t hm)⟩)
  (by kernel_rfl)
end Go.Proofs.YtgjddnaidjbhlaaGreatDoor
