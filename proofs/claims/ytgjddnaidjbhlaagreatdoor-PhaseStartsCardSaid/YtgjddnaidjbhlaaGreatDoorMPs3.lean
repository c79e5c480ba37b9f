/- Several texts in one, in build order: PhForth, PhFreed, PhTurn, PhPhase, PhSort, PhRefP, PhRefQ, PhR1, PhFree, PhIssue, PhNext, PhNo, PhMark, PhOn, PhStart, PhOnTop, PhOnTop2, PhOnAll. -/
import Derived.Test.YtgjddnaidjbhlaaGreatDoorMPs2
import Derived.Deep.DeepCutAuto
import Derived.Deep.RegionHeld3
import Derived.Deep.DrawnRows
import Derived.StillTailTactics
set_option linter.unusedVariables false
set_option linter.unusedSimpArgs false
/- phase.writer: forth (P19): walked by hand. -/
namespace Go.Proofs.YtgjddnaidjbhlaaGreatDoor.Ph
open Go.RowKit Go.IntWalk Go.Proofs.YtgjddnaidjbhlaaGreatDoorW.PrintWords Go.Proofs.YtgjddnaidjbhlaaGreatDoorW.PrintLast Go.Proofs.YtgjddnaidjbhlaaGreatDoorW.PrintMore Go.Proofs.YtgjddnaidjbhlaaGreatDoor.PlName Go.Proofs.YtgjddnaidjbhlaaGreatDoor.Pl Go.Proofs.YtgjddnaidjbhlaaGreatDoor.LgMaps Go.Maps

/-- A variable that holds the writer lies in a box. -/
def Qx (W : World) (p q : Nat) : Prop := W.heap[q]? = some (.cells #[.pointer (some ⟨p, 0, none⟩)] 79 (0, 0))
theorem Qx.cell {W : World} {p q : Nat} (h : Qx W p q) : W.cell? ⟨q, 0, none⟩ = some (.pointer (some ⟨p, 0, none⟩)) := row_cell h rfl
theorem Qx.on {W W2 : World} {p q : Nat} (h : Qx W p q) (hb : Below W.heap.size W W2) : Qx W2 p q := row_on hb h
theorem Wx.qne {nm : ByteArray} {l : List Step} {A : Option Addr} {c : Nat} {x : Inst} {B : Option Addr} {cb : Nat} {v : Value} {L : List Note} {mb n : Nat} {T : Int → Nat} {w W : World} {p q : Nat} (h : Wx w W p nm l A c x B cb v L mb n T) (hq : Qx W p q) : q ≠ p ∧ q ≠ mb ∧ v.ownBlock ≠ some q := by
 refine ⟨fun e => ?_, fun e => ?_, fun e => ?_⟩
 · unfold Qx at hq
   rw [e, h.box] at hq
   injection hq with hq
   injection hq with _ hq
   exact absurd hq (by decide)
 · obtain ⟨es, cl, hm⟩ := h.told.isMap
   unfold Qx at hq
   rw [e, hm] at hq
   cases hq
 · obtain ⟨cs, hc⟩ := own_typed h.own q e
   unfold Qx at hq
   rw [hc] at hq
   injection hq with hq
   injection hq with _ hq
   exact absurd hq (by decide)
theorem Qx.fr {nm : ByteArray} {l : List Step} {A : Option Addr} {c : Nat} {x : Inst} {B : Option Addr} {cb : Nat} {v : Value} {L : List Note} {mb n : Nat} {T : Int → Nat} {v' : Value} {w W W2 : World} {p q : Nat} (hq : Qx W p q) (h : Wx w W p nm l A c x B cb v L mb n T) (hf : Fr W W2 p mb v v') : Qx W2 p q :=
 hf.row hq (h.qne hq).1 (h.qne hq).2.1 (h.qne hq).2.2
set_option maxHeartbeats 16000000 in
set_option maxRecDepth 100000 in
theorem idle_calls {nm : ByteArray} {l : List Step} {A : Option Addr} {c : Nat} {x : Inst} {B : Option Addr} {cb : Nat} {v : Value} {L : List Note} {mb n : Nat} {T : Int → Nat} {w W : World} {p q : Nat} (h : Wx w W p nm l A c x B cb v L mb n T) (hq : Qx W p q) {k : Nat} (hk : k < x.steps.length) (hx8 : x.steps.length ≤ 8) :
 Calls Tryz.prog 122 #[.int .i64 (k : Int), .pointer (some ⟨q, 0, none⟩)] W fun e w' => e = .returned (.bool (stOf x.steps k != 0)) ∧ Below W.heap.size W w' := by
 have hB := h.reads
 have hc8 := h.cells.2.2.2.2.2.2.2.2.1
 obtain ⟨ab, rfl, hy⟩ := int_at hB hk
 rw [st_get hk] at hy
 replace hq := hq.cell
 have hd : decide ((k : Int) < (x.steps.length : Int)) = true := decide_eq_true (by omega)
 clear h hB
 generalize stOf x.steps k = y at *
 go_enter Tryz.func122, Tryz.ntmps122
 go_wp2
 go_ret
 exact ⟨rfl, Below.refl _ _⟩
theorem idle_all {nm : ByteArray} {l : List Step} {A : Option Addr} {c : Nat} {x : Inst} {B : Option Addr} {cb : Nat} {v : Value} {L : List Note} {mb n : Nat} {T : Int → Nat} {w W W0 : World} {p q i : Nat} {u : Value} (h : Wx w W p nm l A c x B cb v L mb n T) (hq : Qx W p q) (hx : x.steps.length = l.length) (hx8 : x.steps.length ≤ 8) (ho : Pl.Own W0 W u (sel (fun k => wars (direct l) l.length k i) l.length)) :
 Calls Tryz.prog 74 #[u, .func (.func 122) #[] #[.pointer (some ⟨q, 0, none⟩)]] W fun e w' => e = .returned (.bool (!allF (fun k => wars (direct l) l.length k i) (fun k => stOf x.steps k == 0) l.length)) ∧ Below W.heap.size W w' := by
 obtain ⟨A', c', rfl, _, hr⟩ := own_reads ho
 have hsl := sel_len (fun k => wars (direct l) l.length k i) l.length
 have eg : ∀ args w, (callFunc 122 args).run Tryz.prog w = .ok (.enter 122 args) w := fun _ _ => by kernel_rfl
 have := containsI_calls _ #[.pointer (some ⟨q, 0, none⟩)] (fun z => stOf x.steps z.toNat != 0) _ A' c' W eg (fun W2 k hk hW => by
  obtain ⟨j, hj, rfl⟩ := mem_intsOf hk
  exact idle_calls (h.on hW) (hq.on hW) (by omega) hx8) hr (by rw [intsOf_len]; omega)
 rw [intsOf_len, any_sel _ (fun k => stOf x.steps k != 0) (fun k => stOf x.steps k == 0) _ (fun k => rfl)] at this
 exact this
/-- How far forth has come. -/
structure Fo (w W : World) (p q : Nat) (nm : ByteArray) (l : List Step) (A : Option Addr) (c : Nat) (x : Inst) (B : Option Addr) (cb : Nat) (L : List Note) (mb n : Nat) (f : Nat → Bool) (W0 : World) (v0 v : Value) (T : Int → Nat) : Prop where
 wx : Wx w W p nm l A c x B cb v L mb n T
 tb : TB T f
 qx : Qx W p q
 fr : Fr W0 W p mb v0 v
section
variable {nm : ByteArray} {l : List Step} {A : Option Addr} {c : Nat} {x : Inst} {B : Option Addr} {cb : Nat} {L L' : List Note} {mb n n' : Nat} {f f' : Nat → Bool} {w W W2 W0 : World} {p q : Nat} {v0 v v' : Value} {T T' : Int → Nat}
theorem Fo.on (h : Fo w W p q nm l A c x B cb L mb n f W0 v0 v T) (hb : Below W.heap.size W W2) : Fo w W2 p q nm l A c x B cb L mb n f W0 v0 v T := ⟨h.wx.on hb, h.tb, h.qx.on hb, h.fr.trans (Fr.below p mb v hb)⟩
theorem Fo.next (h : Fo w W p q nm l A c x B cb L mb n f W0 v0 v T) (hw : Wx w W2 p nm l A c x B cb v' L' mb n' T') (ht : TB T' f') (hf : Fr W W2 p mb v v') : Fo w W2 p q nm l A c x B cb L' mb n' f' W0 v0 v' T' := ⟨hw, ht, h.qx.fr h.wx hf, h.fr.trans hf⟩
end
theorem Qx.grown {nm : ByteArray} {l : List Step} {A : Option Addr} {c : Nat} {x : Inst} {B : Option Addr} {cb : Nat} {v : Value} {L : List Note} {mb n : Nat} {T : Int → Nat} {w W W2 : World} {p q : Nat} (hq : Qx W p q) (h : Wx w W p nm l A c x B cb v L mb n T) (hg : W.grownBy W2 v.ownBlock) : Qx W2 p q :=
 (hg.block q (Array.getElem?_eq_some_iff.1 hq).1 (fun e => (h.qne hq).2.2 e.symm)).trans hq
theorem take_flat {α β : Type} {f : α → List β} {L : List α} {k : Nat} (h : k < L.length) : (L.take (k + 1)).flatMap f = (L.take k).flatMap f ++ f L[k] := by
 rw [List.take_succ_eq_append_getElem h, List.flatMap_append]
 simp
theorem forthAt_len (l : List Step) (x : Inst) (i : Nat) : (forthAt l x i).length ≤ 2 := by
 unfold forthAt
 split <;> simp <;> split <;> simp
theorem flat_len {α β : Type} {f : α → List β} (m : Nat) (h : ∀ a, (f a).length ≤ m) : ∀ L : List α, (L.flatMap f).length ≤ m * L.length
 | [] => by simp
 | a :: L => by
  have := flat_len m h L
  have := h a
  rw [List.flatMap_cons, List.length_append, List.length_cons, Nat.mul_succ]
  omega
theorem take_told (l : List Step) (x : Inst) (o : List Nat) {k : Nat} (h : k < o.length) (i : Nat) : ((o.take (k + 1)).contains i && toldAt l x i) = ((i == o[k] && toldAt l x i) || ((o.take k).contains i && toldAt l x i)) := by
 rw [List.take_succ_eq_append_getElem h]
 have : (o.take k ++ [o[k]]).contains i = ((o.take k).contains i || i == o[k]) := by
  rw [Bool.eq_iff_iff, Bool.or_eq_true, List.contains_iff_mem, List.contains_iff_mem, List.mem_append, beq_iff_eq, List.mem_singleton]
 rw [this]
 cases (o.take k).contains i <;> cases (i == o[k]) <;> cases toldAt l x i <;> rfl
/-- The order lies in memory of one's own. -/
def Od (W : World) (u : Value) (o : List Nat) : Prop := ∃ base, W.ownsRow base 3 1 u o.length (selV o)
theorem Od.on {W W2 : World} {u : Value} {o : List Nat} (h : Od W u o) (hb : Below W.heap.size W W2) : Od W2 u o := by
 obtain ⟨base, ho⟩ := h
 exact ⟨base, own_move ho fun k hk => hb.block k (ho.lt k hk).2⟩
theorem Od.fr {nm : ByteArray} {l : List Step} {A : Option Addr} {c : Nat} {x : Inst} {B : Option Addr} {cb : Nat} {v : Value} {L : List Note} {mb n : Nat} {T : Int → Nat} {v' u : Value} {o : List Nat} {w W W2 : World} {p : Nat} (ho : Od W u o) (h : Wx w W p nm l A c x B cb v L mb n T) (hf : Fr W W2 p mb v v') : Od W2 u o := by
 obtain ⟨base, ho⟩ := ho
 refine ⟨base, own_move ho fun k hk => ?_⟩
 obtain ⟨cs, hc⟩ := own_typed ho k hk
 refine (hf.old k (ho.lt k hk).2 (fun e => ?_) (fun e => ?_) (fun e => ?_)).1
 · rw [e, h.box] at hc
   injection hc with hc
   injection hc with _ hc
   exact absurd hc (by decide)
 · obtain ⟨es, cl, hm⟩ := h.told.isMap
   rw [e, hm] at hc
   cases hc
 · obtain ⟨c2, hc2⟩ := own_typed h.own k e
   rw [hc] at hc2
   injection hc2 with hc2
   injection hc2 with _ hc2
   exact absurd hc2 (by decide)
theorem Od.reads {W : World} {u : Value} {o : List Nat} (h : Od W u o) : ∃ A c, u = .slice A o.length c ∧ Kd.C (Kd.int .i64) W A (intsOf o).length (intsOf o) := by
 obtain ⟨base, ho⟩ := h
 obtain ⟨A, c, e, _, hr⟩ := own_reads ho
 exact ⟨A, c, e, hr⟩
set_option maxHeartbeats 16000000 in
set_option maxRecDepth 100000 in
theorem forth_calls {nm : ByteArray} {l : List Step} {A : Option Addr} {c : Nat} {x : Inst} {B : Option Addr} {cb : Nat} {v : Value} {L : List Note} {mb n : Nat} {T : Int → Nat} {f : Nat → Bool} {w W : World} {p : Nat} {Ao : Option Addr} {ca : Nat} (o : List Nat) (h : Wx w W p nm l A c x B cb v L mb n T) (hf : TB T f) (hod : Od W (.slice Ao o.length ca) o) (hoi : ∀ i ∈ o, i < l.length) (ho8 : o.length ≤ 8) (hL : L.length ≤ 50) (hn : n ≤ 50) (hx8 : x.steps.length ≤ 8) (hx : x.steps.length = l.length)
 (hok : defOk nm l = true) (hnm : nm.size ≤ 140737488351232) (hS : StepsAt w A l) (hb : ∀ s ∈ l, StepB s) (hc : l.length ≤ c) (hT : TabsAt w) :
 Calls Tryz.prog 54 #[.pointer (some ⟨p, 0, none⟩), .slice Ao o.length ca] W fun e W' => e = .returned (.tuple #[]) ∧ Wrote w W W' p nm l A c x B cb v (L ++ o.flatMap (forthAt l x)) mb (n + o.length) (fun i => (o.contains i && toldAt l x i) || f i) := by
 obtain ⟨hl1, hl8, -⟩ := defOk_len hok
 have hbeA := Aside0.mk (fun k (hk : k < l.length) W (h : Below w.heap.size w W) => (by
  have := behind_calls nm l A c (k : Int) W hnm (hS.below h) hb (by omega) hc (tabs_on hT h)
  rw [show behindL nm l (k : Int) = sel (fun j => wars (direct l) l.length j k) l.length by
   unfold behindL
   rw [hok, decide_eq_true (p := 0 ≤ (k : Int) ∧ (k : Int) < l.length) (by omega)]
   rfl] at this
  exact this : Calls Tryz.prog 123 #[.agg #[.string nm, .slice A l.length c], .int .i64 (k : Int)] W fun e w' => (∃ v, e = .returned v ∧ Pl.Own W w' v (sel (fun j => wars (direct l) l.length j k) l.length)) ∧ Below W.heap.size W w'))
 have HF0 := Aside0.mk (show Fo w (W.alloc (.cells #[.pointer (some ⟨p, 0, none⟩)] 79)) p W.heap.size nm l A c x B cb L mb n f W v v T from ⟨h.on (below_one _ _), hf, alloc1 W _, Fr.below p mb v (below_one _ _)⟩)
 have HO0 := Aside0.mk (hod.on (below_one W (.cells #[.pointer (some ⟨p, 0, none⟩)] 79)))
 have HC := Aside0.mk (And.intro hoi (And.intro hL (And.intro hn (And.intro hx8 hx))))
 clear h hf hod hoi hL hn hx8 hx hok hnm hS hb hc hT
 go_enter Tryz.func54, Tryz.ntmps54
 go_wp2
 generalize W.heap.size = q at *
 generalize World.alloc W _ = w0 at *
 go_loopw [11] (fun v11 wr => ∃ (k : Nat) (v1 : Value) (T1 : Int → Nat), k ≤ o.length ∧ v11 = .int .i64 (k : Int) ∧ Fo w wr p q nm l A c x B cb (L ++ (o.take k).flatMap (forthAt l x)) mb (n + k) (fun i => ((o.take k).contains i && toldAt l x i) || f i) W v v1 T1 ∧ Od wr (.slice Ao o.length ca) o) (fun v11 _ => o.length - (intOf v11).toNat)
 case atStart => exact ⟨0, v, T, Nat.zero_le _, rfl, by simpa using HF0.out, HO0.out⟩
 case round =>
  obtain ⟨k, v1, T1, hk, rfl, hFo, hOd⟩ := hrel
  have HG := Aside0.mk (And.intro hFo hOd)
  clear hFo hOd HF0 HO0
  by_cases hlt : k < o.length
  · have hd1 : decide ((k : Int) < (o.length : Int)) = true := decide_eq_true (by omega)
    have hil := HC.out.1 o[k] (List.getElem_mem hlt)
    have hix : o[k] < x.steps.length := by have := HC.out.2.2.2.2; omega
    have HT : Aside0 ((o.take (k + 1)).flatMap (forthAt l x) = (o.take k).flatMap (forthAt l x) ++ forthAt l x o[k] ∧ ∀ j, ((o.take (k + 1)).contains j && toldAt l x j) = ((j == o[k] && toldAt l x j) || ((o.take k).contains j && toldAt l x j))) := ⟨take_flat hlt, take_told l x o hlt⟩
    have hLk : (L ++ (o.take k).flatMap (forthAt l x)).length ≤ 70 := by
     have h1 := flat_len 2 (forthAt_len l x) (o.take k)
     have h2 := HC.out.2.1
     rw [List.length_take] at h1
     rw [List.length_append]
     omega
    have hnk : n + k ≤ 60 := by have := HC.out.2.2.1; omega
    obtain ⟨_, _, e, hr⟩ := HG.out.2.reads
    cases e
    have hki : k < (intsOf o).length := by rw [intsOf_len]; exact hlt
    obtain ⟨ao, rfl, hcell⟩ := int_at hr hki
    have hge : (intsOf o)[k]'hki = (o[k] : Int) := by simp [intsOf]
    rw [hge] at hcell
    obtain ⟨ab, rfl, hy⟩ := int_at HG.out.1.wx.reads hix
    rw [st_get hix] at hy
    have hd2 : decide ((o[k] : Int) < (x.steps.length : Int)) = true := decide_eq_true (by omega)
    have hqc := HG.out.1.qx.cell
    obtain ⟨ha0, ha1, ha2, _, _, _, _, ha7, ha8, _, _, _, _, ha13, _⟩ := HG.out.1.wx.cells
    have HFA : Aside0 (∀ i, forthAt l x i = if stOf x.steps i == 0 then [] else issueOf x i :: (if ledBy l x i then [markOf x 2 i] else [])) := ⟨fun _ => rfl⟩
    have HTA : Aside0 (∀ i, toldAt l x i = (!(stOf x.steps i == 0) && ledBy l x i)) := ⟨fun _ => rfl⟩
    have HLB : Aside0 (∀ i, ledBy l x i = ((stOf x.steps i == 2 && x.cause == 0) || !allF (fun k => wars (direct l) l.length k i) (fun k => stOf x.steps k == 0) l.length)) := ⟨fun _ => rfl⟩
    clear hge hki hr
    generalize hi : o[k] = i at *
    replace hi := Aside0.mk hi
    cases hy0 : (stOf x.steps i == 0)
    · have HN0 : Aside0 (forthAt l x i = issueOf x i :: (if ledBy l x i then [markOf x 2 i] else []) ∧ toldAt l x i = ledBy l x i) := ⟨by rw [HFA.out, hy0]; rfl, by rw [HTA.out, hy0]; rfl⟩
      obtain ⟨i37, hi37, hz37, hs37, hb37⟩ := info_parts note_info
      have HI := Aside0.mk (And.intro hi37 (And.intro hz37 (And.intro hs37 hb37)))
      clear hi37 hz37 hs37 hb37
      generalize hLL : L ++ (o.take k).flatMap (forthAt l x) = LL at *
      replace hLL := Aside0.mk hLL
      have hb0 := HG.out.1.wx.below.size
      go_upto_region 7 with fail
      refine start_ (n := 18) (S := fun w' => w'.cell? ⟨q, 0, none⟩ = some (.pointer (some ⟨p, 0, none⟩)) ∧ w'.cell? ⟨p, 2, none⟩ = some (.int .i64 x.id) ∧ w'.cell? ⟨p, 13, none⟩ = some v1) (ds := [17]) #[false,false,false,false,false,false,false,false,false,false,false,false,false,false,false,false,false,false] (by kernel_rfl) rfl rfl ⟨(by go_keep), (by go_keep), (by go_keep)⟩ (fun hHeld => ?_)
      refine zV 11 37 18 2048 ?_
      refine zT 0 26 18 2049 hHeld ?_
      refine zT 1 27 18 2051 hHeld ?_
      refine zV 2 28 18 2055 ?_
      refine zV 3 29 18 2063 ?_
      refine zT 4 30 18 2079 hHeld ?_
      refine zT 5 31 18 2111 hHeld ?_
      refine zV 6 32 18 2175 ?_
      refine zV 7 33 18 2303 ?_
      refine zV 8 34 18 2559 ?_
      refine zV 9 35 18 3071 ?_
      refine zT 10 36 18 4095 hHeld ?_
      refine zV 12 38 18 8191 ?_
      refine one_ (i := 13) (N := some 39) (zG 18 16383) rfl rfl (by kernel_rfl) (by decide) (fun K hK => ?_)
      refine value_ (w1 := ?_) (v := ?_) (by rfl) rfl ?_ ?_
      rotate_left 2
      · go_simp
        constructor
        · rfl
        · rfl
      refine hK.out _ _ ⟨(by go_keep), (by go_keep), (by go_keep)⟩ (fun hHeld => ?_)
      clear hK K
      refine norm_ (a' := ?_) ?_ ?_
      rotate_left
      · show Act.put _ (some 39) _ = _
        simp only [Act.put, zA, zB, zC, i64_w, i32_w]
        rfl
      refine one_ (i := 14) (N := some 40) (zG 18 32767) rfl rfl (by kernel_rfl) (by decide) (fun K hK => ?_)
      refine step_append_lies _ (by rfl) _ _ _ (by rfl) w.heap.size 37 i37 _ 10 104 Tryz.underlying48 HI.out.1 HI.out.2.1 HI.out.2.2.1 HI.out.2.2.2 rfl (by decide) v1 LL.length (LL.flatMap noteC) (by rfl) ((HG.out.1.wx.own.alloc _).drew) ⟨wr.heap.size, 0, none⟩ 1 1 (noteC (issueOf x i)) (by rfl) (by rfl) (World.news_of_block (heap_alloc_new wr _)) (note_one _) (by omega) (by unfold maxLen; omega) (by omega) (by simp; omega) (wr.heap.size + 1) (by simp) ?_
      intro gg cap w1 hown1 hgrow hat hlt1
      have hgr := (grown_drew (World.grownBy_alloc wr _ _)).trans hgrow
      have hbx := HG.out.1.wx.after hgr
      have hqx := (HG.out.1.qx.grown HG.out.1.wx hgr).cell
      have hb2 := row_cell (j := 2) hbx rfl
      have hb13 := row_cell (j := 13) hbx rfl
      have hf13 := free_of_row (j := 13) hbx
      have HX := Aside0.mk (HG.out.1.wx.push hown1 hgr)
      have HR := Aside0.mk (Fr.push (mb := mb) (p := p) (n := LL.length + 1) (cap := cap) (u := .slice (some ⟨gg, 0, none⟩) (LL.length + 1) cap) hgr hat)
      clear hown1 hgrow hgr hbx hat
      refine hK.out _ _ ⟨hqx, hb2, hb13⟩ (fun hHeld => ?_)
      clear hK K
      refine norm_ (a' := ?_) ?_ ?_
      rotate_left
      · show Act.put _ (some 40) _ = _
        simp only [Act.put, zA, zB, zC, i64_w, i32_w]
        rfl
      refine zV 15 41 18 65535 ?_
      refine zV 16 42 18 131071 ?_
      refine last_ (i := 17) (N := none) #[true,true,true,true,true,true,true,true,true,true,true,true,true,true,true,true,true,true] rfl rfl (by kernel_rfl) (by decide) (fun K hK => ?_)
      refine skip_ (w1 := ?_) (by rfl) rfl ?_ ?_
      rotate_left
      · go_simp
        rfl
      refine hK.out _ _ ?_
      clear hK K
      refine done_ (by kernel_rfl) ?_
      have HG2 := Aside0.mk (And.intro (HG.out.1.next HX.out HG.out.1.tb HR.out) (HG.out.2.fr HG.out.1.wx HR.out))
      clear HG HX HR hqx hb2 hb13 hf13 hqc ha0 ha1 ha2 ha7 ha8 ha13 hcell hy hHeld hlt1
      generalize World.setCell _ _ _ = w5 at *
      have hqc := HG2.out.1.qx.cell
      have ha0 := HG2.out.1.wx.cells.1
      have ha1 := HG2.out.1.wx.cells.2.1
      have ha7 := HG2.out.1.wx.cells.2.2.2.2.2.2.2.1
      have hbe := Aside0.mk (hbeA.out i hil)
      have hid := Aside0.mk (fun W6 W0 u (h : Fo w W6 p q nm l A c x (some ab) cb (LL ++ [issueOf x i]) mb (n + k) (fun i => (o.take k).contains i && toldAt l x i || f i) W v (.slice (some ⟨gg, 0, none⟩) (LL.length + 1) cap) T1) (ho : Pl.Own W0 W6 u (sel (fun k => wars (direct l) l.length k i) l.length)) => idle_all h.wx h.qx HC.out.2.2.2.2 HC.out.2.2.2.1 ho)
      have hmk := Aside0.mk (fun W6 (h : Fo w W6 p q nm l A c x (some ab) cb (LL ++ [issueOf x i]) mb (n + k) (fun i => (o.take k).contains i && toldAt l x i || f i) W v (.slice (some ⟨gg, 0, none⟩) (LL.length + 1) cap) T1) => mark_tells h.wx i 2 (by omega) (by simp; omega) (by omega))
      have HLI := Aside0.mk (HLB.out i)
      have hgo : ∀ wz, Fo w wz p q nm l A c x (some ab) cb (LL ++ [issueOf x i]) mb (n + k) (fun i => (o.take k).contains i && toldAt l x i || f i) W v (.slice (some ⟨gg, 0, none⟩) (LL.length + 1) cap) T1 → ledBy l x i = false → Fo w wz p q nm l A c x (some ab) cb (L ++ (o.take (k + 1)).flatMap (forthAt l x)) mb (n + (k + 1)) (fun i => (o.take (k + 1)).contains i && toldAt l x i || f i) W v (.slice (some ⟨gg, 0, none⟩) (LL.length + 1) cap) T1 := fun wz hF hl => by
       have e : L ++ (o.take (k + 1)).flatMap (forthAt l x) = LL ++ [issueOf x i] := by
        rw [HT.out.1, HN0.out.1, hl, ← List.append_assoc, hLL.out]
        rfl
       rw [e]
       exact ⟨hF.wx.mono (by omega), hF.tb.congr fun j => (by
        rw [HT.out.2]
        by_cases hj : j = i
        · subst hj
          rw [HN0.out.2, hl]
          simp
        · rw [beq_eq_false_iff_ne.2 hj]
          rfl), hF.qx, hF.fr⟩
      have hgy : ∀ (wz wy : World) (v2 : Value), Fo w wz p q nm l A c x (some ab) cb (LL ++ [issueOf x i]) mb (n + k) (fun i => (o.take k).contains i && toldAt l x i || f i) W v (.slice (some ⟨gg, 0, none⟩) (LL.length + 1) cap) T1 → ledBy l x i = true → Wx w wy p nm l A c x (some ab) cb v2 (LL ++ [issueOf x i] ++ [markOf x 2 i]) mb (n + k + 1) (upd T1 i) → Fr wz wy p mb (.slice (some ⟨gg, 0, none⟩) (LL.length + 1) cap) v2 → Fo w wy p q nm l A c x (some ab) cb (L ++ (o.take (k + 1)).flatMap (forthAt l x)) mb (n + (k + 1)) (fun i => (o.take (k + 1)).contains i && toldAt l x i || f i) W v v2 (upd T1 i) := fun wz wy v2 hF hl hw hfr => by
       have e : L ++ (o.take (k + 1)).flatMap (forthAt l x) = LL ++ [issueOf x i] ++ [markOf x 2 i] := by
        rw [HT.out.1, HN0.out.1, hl, ← List.append_assoc, hLL.out]
        simp
       have h2 := hF.next hw (hF.tb.upd i) hfr
       rw [e]
       exact ⟨h2.wx, h2.tb.congr fun j => (by
        rw [HT.out.2]
        by_cases hj : j = i
        · subst hj
          rw [HN0.out.2, hl]
          simp
        · rw [beq_eq_false_iff_ne.2 hj]
          rfl), h2.qx, h2.fr⟩
      replace hgo := Aside0.mk hgo
      replace hgy := Aside0.mk hgy
      clear HLB HFA HTA hnk hLk hb0 hil hix hd2 HI hLL HN0 HT
      generalize ledBy l x i = lb at *
      generalize allF (fun k => wars (direct l) l.length k i) (fun k => stOf x.steps k == 0) l.length = af at *
      generalize stOf x.steps i = y at *
      cases hs2 : (y == 2)
      case true =>
       cases hc0 : (x.cause == 0)
       case true =>
        have hlb : lb = true := by rw [HLI.out, hs2, hc0]; rfl
        replace hlb := Aside0.mk hlb
        go_wp2_with (first | (go_at_call 56; refine (hmk.out _ HG2.out.1).mono ?_; rintro e w9 ⟨rfl, v2, hw2, hfr2⟩; have H9 := Aside0.mk (And.intro (hgy.out _ _ _ HG2.out.1 hlb.out hw2 hfr2) (HG2.out.2.fr HG2.out.1.wx hfr2)); clear hw2 hfr2))
        go_roundw
        case rel => exact ⟨k + 1, v2, _, hlt, by go_num, H9.out.1, H9.out.2⟩
        case measure => simp [intOf]; omega
       case false =>
        cases af
        case false =>
         have hlb : lb = true := by rw [HLI.out, hs2, hc0]; rfl
         replace hlb := Aside0.mk hlb
         go_wp2_with (first | (go_at_call 123; refine (hbe.out _ HG2.out.1.wx.below).mono ?_; rintro e w6 ⟨⟨v6, rfl, ho6⟩, hb6⟩; have H6 := Aside0.mk (And.intro (And.intro (HG2.out.1.on hb6) (HG2.out.2.on hb6)) ho6); clear hb6 ho6) | (go_at_call 74; refine (hid.out _ _ _ H6.out.1.1 H6.out.2).mono ?_; rintro e w8 ⟨rfl, hb8⟩; have H8 := Aside0.mk (And.intro (H6.out.1.1.on hb8) (H6.out.1.2.on hb8)); have hq8 := H8.out.1.qx.cell; clear hb8) | (go_at_call 56; refine (hmk.out _ H8.out.1).mono ?_; rintro e w9 ⟨rfl, v2, hw2, hfr2⟩; have H9 := Aside0.mk (And.intro (hgy.out _ _ _ H8.out.1 hlb.out hw2 hfr2) (H8.out.2.fr H8.out.1.wx hfr2)); clear hw2 hfr2))
         go_roundw
         case rel => exact ⟨k + 1, v2, _, hlt, by go_num, H9.out.1, H9.out.2⟩
         case measure => simp [intOf]; omega
        case true =>
         have hlb : lb = false := by rw [HLI.out, hs2, hc0]; rfl
         replace hlb := Aside0.mk hlb
         go_wp2_with (first | (go_at_call 123; refine (hbe.out _ HG2.out.1.wx.below).mono ?_; rintro e w6 ⟨⟨v6, rfl, ho6⟩, hb6⟩; have H6 := Aside0.mk (And.intro (And.intro (HG2.out.1.on hb6) (HG2.out.2.on hb6)) ho6); clear hb6 ho6) | (go_at_call 74; refine (hid.out _ _ _ H6.out.1.1 H6.out.2).mono ?_; rintro e w8 ⟨rfl, hb8⟩; have H8 := Aside0.mk (And.intro (H6.out.1.1.on hb8) (H6.out.1.2.on hb8)); have hq8 := H8.out.1.qx.cell; clear hb8) | (go_at_call 56; refine (hmk.out _ H8.out.1).mono ?_; rintro e w9 ⟨rfl, v2, hw2, hfr2⟩; have H9 := Aside0.mk (And.intro (hgy.out _ _ _ H8.out.1 hlb.out hw2 hfr2) (H8.out.2.fr H8.out.1.wx hfr2)); clear hw2 hfr2))
         go_roundw
         case rel => exact ⟨k + 1, _, _, hlt, by go_num, hgo.out _ H8.out.1 hlb.out, H8.out.2⟩
         case measure => simp [intOf]; omega
      case false =>
       cases af
       case false =>
        have hlb : lb = true := by rw [HLI.out, hs2]; rfl
        replace hlb := Aside0.mk hlb
        go_wp2_with (first | (go_at_call 123; refine (hbe.out _ HG2.out.1.wx.below).mono ?_; rintro e w6 ⟨⟨v6, rfl, ho6⟩, hb6⟩; have H6 := Aside0.mk (And.intro (And.intro (HG2.out.1.on hb6) (HG2.out.2.on hb6)) ho6); clear hb6 ho6) | (go_at_call 74; refine (hid.out _ _ _ H6.out.1.1 H6.out.2).mono ?_; rintro e w8 ⟨rfl, hb8⟩; have H8 := Aside0.mk (And.intro (H6.out.1.1.on hb8) (H6.out.1.2.on hb8)); have hq8 := H8.out.1.qx.cell; clear hb8) | (go_at_call 56; refine (hmk.out _ H8.out.1).mono ?_; rintro e w9 ⟨rfl, v2, hw2, hfr2⟩; have H9 := Aside0.mk (And.intro (hgy.out _ _ _ H8.out.1 hlb.out hw2 hfr2) (H8.out.2.fr H8.out.1.wx hfr2)); clear hw2 hfr2))
        go_roundw
        case rel => exact ⟨k + 1, v2, _, hlt, by go_num, H9.out.1, H9.out.2⟩
        case measure => simp [intOf]; omega
       case true =>
        have hlb : lb = false := by rw [HLI.out, hs2]; rfl
        replace hlb := Aside0.mk hlb
        go_wp2_with (first | (go_at_call 123; refine (hbe.out _ HG2.out.1.wx.below).mono ?_; rintro e w6 ⟨⟨v6, rfl, ho6⟩, hb6⟩; have H6 := Aside0.mk (And.intro (And.intro (HG2.out.1.on hb6) (HG2.out.2.on hb6)) ho6); clear hb6 ho6) | (go_at_call 74; refine (hid.out _ _ _ H6.out.1.1 H6.out.2).mono ?_; rintro e w8 ⟨rfl, hb8⟩; have H8 := Aside0.mk (And.intro (H6.out.1.1.on hb8) (H6.out.1.2.on hb8)); have hq8 := H8.out.1.qx.cell; clear hb8) | (go_at_call 56; refine (hmk.out _ H8.out.1).mono ?_; rintro e w9 ⟨rfl, v2, hw2, hfr2⟩; have H9 := Aside0.mk (And.intro (hgy.out _ _ _ H8.out.1 hlb.out hw2 hfr2) (H8.out.2.fr H8.out.1.wx hfr2)); clear hw2 hfr2))
        go_roundw
        case rel => exact ⟨k + 1, _, _, hlt, by go_num, hgo.out _ H8.out.1 hlb.out, H8.out.2⟩
        case measure => simp [intOf]; omega
    · have HE : Aside0 (forthAt l x i = [] ∧ toldAt l x i = false) := ⟨by rw [HFA.out, hy0]; rfl, by rw [HTA.out, hy0]; rfl⟩
      have hyz : stOf x.steps i = 0 := by simpa using hy0
      rw [hyz] at hy
      clear hyz hy0
      go_wp2
      go_roundw
      case rel =>
       refine ⟨k + 1, v1, T1, hlt, by go_num, ?_, HG.out.2⟩
       have hF := HG.out.1
       rw [HT.out.1, HE.out.1, List.append_nil]
       exact ⟨hF.wx.mono (by omega), hF.tb.congr fun j => by
        rw [HT.out.2]
        by_cases hj : j = i
        · subst hj
          rw [HE.out.2]
          simp
        · rw [beq_eq_false_iff_ne.2 hj]
          rfl, hF.qx, hF.fr⟩
      case measure => simp [intOf]; omega
  · have hk' : k = o.length := by omega
    subst hk'
    have hd2 : decide ((o.length : Int) < (o.length : Int)) = false := decide_eq_false (by omega)
    go_wp2
    go_end0
    refine ⟨rfl, v1, T1, ?_, ?_, HG.out.1.fr⟩
    · have := HG.out.1.wx
      rw [List.take_length] at this
      exact this
    · have := HG.out.1.tb
      rw [List.take_length] at this
      exact this
end Go.Proofs.YtgjddnaidjbhlaaGreatDoor.Ph

/- phase.view: freed (P19): walked by hand. -/
namespace Go.Proofs.YtgjddnaidjbhlaaGreatDoor.Ph
open Go.RowKit Go.IntWalk Go.Proofs.YtgjddnaidjbhlaaGreatDoorW.PrintWords Go.Proofs.YtgjddnaidjbhlaaGreatDoorW.PrintLast Go.Proofs.YtgjddnaidjbhlaaGreatDoorW.PrintMore Go.Proofs.YtgjddnaidjbhlaaGreatDoor.PlName Go.Proofs.YtgjddnaidjbhlaaGreatDoor.Pl

theorem all_upto (p : Nat → Bool) (k : Nat) : (List.range (k + 1)).all p = ((List.range k).all p && p k) := by
 rw [List.range_succ, List.all_append]
 simp
theorem idx4' (x : Inst) (w : World) {b : Nat} (hb : b < 4) : (Instr.index 26 (.agg #[.int .i64 (x.freed 0), .int .i64 (x.freed 1), .int .i64 (x.freed 2), .int .i64 (x.freed 3)]) (.int .i64 (b : Int))).run Tryz.prog w = .ok (.int .i64 (x.freed b)) w := idx4 x.freed w hb
theorem named_has {nm : ByteArray} {l : List Step} (hok : defOk nm l = true) {k : Nat} (hk : k < 4) : (intsOf (namedL nm l)).contains (k : Int) = named l k := by
 unfold namedL
 rw [if_pos hok]
 have h2 : ∀ (L : List Nat) (x : Nat), (intsOf L).contains (x : Int) = L.contains x := fun L x => by
  rw [Bool.eq_iff_iff, List.contains_iff_mem, List.contains_iff_mem]
  unfold intsOf
  rw [List.mem_map]
  constructor
  · rintro ⟨y, hy, e⟩
    have : y = x := by omega
    exact this ▸ hy
  · exact fun h => ⟨x, h, rfl⟩
 rw [h2, sel_has hk]
theorem namedL_len (nm : ByteArray) (l : List Step) : (namedL nm l).length ≤ 4 := by
 unfold namedL
 split
 · exact sel_len _ _
 · simp
set_option maxHeartbeats 64000000 in
set_option maxRecDepth 100000 in
theorem freed_calls (nm : ByteArray) (l : List Step) (A : Option Addr) (c : Nat) (x : Inst) (B : Option Addr) (cb : Nat) (w : World) (hok : defOk nm l = true) (hnm : nm.size ≤ 140737488351232) (hS : StepsAt w A l) (hb : ∀ s ∈ l, StepB s) (hc : l.length ≤ c) (hT : TabsAt w) :
 Calls Tryz.prog 114 #[.agg #[.string nm, .slice A l.length c, .int .i64 x.id, .string x.key, .string x.name, .int .i64 x.version, .int .i64 x.phase, .int .i64 x.cause, .slice B x.steps.length cb, .int .i64 (x.freed 0), .int .i64 (x.freed 1), .int .i64 (x.freed 2), .int .i64 (x.freed 3)]] w fun e w' => e = .returned (.tuple #[.bool (mayL l x), .bool (doneL l x)]) ∧ Below w.heap.size w w' := by
 have hl8 := (defOk_len hok).2.1
 have HV := Aside0.mk (Vw.start nm l A c x B cb w)
 have hnd := Aside0.mk (fun W (h : Below w.heap.size w W) => named_calls nm l A c W hnm (hS.below h) hb (by omega) hc (tabs_on hT h))
 have hov := Aside0.mk (fun W => over_calls nm l A c x B cb W)
 have HH := Aside0.mk (fun (k : Nat) (hk : k < 4) => named_has (nm := nm) (l := l) hok hk)
 have HLN := Aside0.mk (namedL_len nm l)
 have HM : Aside0 (∀ k, (List.range (k + 1)).all (mayFree l x) = ((List.range k).all (mayFree l x) && (x.freed k == 0 || (x.freed k == 1 && named l k && overL x)))) := ⟨fun k => all_upto _ k⟩
 have HD : Aside0 (∀ k, (List.range (k + 1)).all (fun p => x.freed p == 1 || !named l p) = ((List.range k).all (fun p => x.freed p == 1 || !named l p) && (x.freed k == 1 || !named l k))) := ⟨fun k => all_upto _ k⟩
 have HE : Aside0 (mayL l x = (List.range 4).all (mayFree l x) ∧ doneL l x = (List.range 4).all (fun p => x.freed p == 1 || !named l p)) := ⟨rfl, rfl⟩
 clear hok hnm hS hb hc hT hl8
 generalize namedL nm l = NL at *
 generalize mayL l x = mr at *
 generalize doneL l x = dr at *
 generalize overL x = ov at *
 go_enter Tryz.func114, Tryz.ntmps114
 go_wp2
 generalize World.alloc w _ = w0 at *
 go_loopw [2, 3, 10] (fun v2 v3 v10 wr => ∃ k : Nat, k ≤ 4 ∧ v10 = .int .i64 (k : Int) ∧ v2 = .bool ((List.range k).all (mayFree l x)) ∧ v3 = .bool ((List.range k).all (fun p => x.freed p == 1 || !named l p)) ∧ Vw w wr nm l A c x B cb) (fun _ _ v10 _ => 4 - (intOf v10).toNat)
 case atStart => exact ⟨0, by omega, rfl, rfl, rfl, HV.out⟩
 case round =>
  obtain ⟨k, hk, rfl, rfl, rfl, hN⟩ := hrel
  have HG := Aside0.mk hN
  obtain ⟨hq0, hq1, hq2, hq3, hq4, hq5, hq6, hq7, hq8, hq9, hq10, hq11, hq12⟩ := hN.cells
  clear HV hN
  by_cases hlt : k < 4
  · have hd2 : decide ((k : Int) < 4) = true := decide_eq_true (by omega)
    have hix := fun w => idx4' x w hlt
    have HM2 := Aside0.mk (HM.out k)
    have HD2 := Aside0.mk (HD.out k)
    have HH2 := Aside0.mk (HH.out k hlt)
    generalize (List.range k).all (mayFree l x) = m at *
    generalize (List.range k).all (fun p => x.freed p == 1 || !named l p) = dn at *
    have hcon := Aside0.mk (fun W W0 v (h : Pl.Own W0 W v NL) => (by
     obtain ⟨A', c', rfl, _, hr⟩ := own_reads h
     have h1 := contains_calls A' c' (intsOf NL) (k : Int) W hr (by have := HLN.out; rw [intsOf_len]; omega)
     rw [intsOf_len, HH2.out] at h1
     exact h1 : Calls Tryz.prog 118 #[v, .int .i64 (k : Int)] W fun e w' => e = .returned (.bool (named l k)) ∧ w' = W))
    generalize named l k = nd at *
    generalize x.freed k = fk at *
    clear HH2
    clear HM HD HH HE
    cases m <;> cases dn <;> cases nd <;> cases h0 : (fk == 0) <;> cases h1 : (fk == 1)
    all_goals
     go_wp2_with (first | (go_at_call 66; refine (hnd.out _ HG.out.below).mono ?_; rintro e w3 ⟨⟨v3, rfl, ho3⟩, hb3⟩; have H3 := Aside0.mk (And.intro (HG.out.on hb3) ho3); clear ho3 hb3 hq0 hq1 hq2 hq3 hq4 hq5 hq6 hq7 hq8 hq9 hq10 hq11 hq12; obtain ⟨hq0, hq1, hq2, hq3, hq4, hq5, hq6, hq7, hq8, hq9, hq10, hq11, hq12⟩ := H3.out.1.cells) | (go_at_call 118; refine (hcon.out _ _ _ H3.out.2).mono ?_; rintro e w4 ⟨rfl, rfl⟩) | (go_at_call 58; refine (hov.out _).mono ?_; rintro e w5 ⟨rfl, hb5⟩; have H5 := Aside0.mk (H3.out.1.on hb5); clear hb5))
     go_roundw
     case rel => exact ⟨k + 1, by omega, by go_num, by rw [HM2.out, h0, h1]; cases ov <;> rfl, by rw [HD2.out, h1]; rfl, by first | exact H5.out | exact H3.out.1⟩
     case measure => simp [intOf]; omega
  · have hk' : k = 4 := by omega
    subst hk'
    have hd2 : decide ((4 : Int) < 4) = false := by decide
    go_wp2
    go_ret2
    exact ⟨by rw [HE.out.1, HE.out.2]; rfl, HG.out.below⟩
end Go.Proofs.YtgjddnaidjbhlaaGreatDoor.Ph

/- phase.view: turned (P19): walked by hand. -/
namespace Go.Proofs.YtgjddnaidjbhlaaGreatDoor.Ph
open Go.RowKit Go.IntWalk Go.Proofs.YtgjddnaidjbhlaaGreatDoorW.PrintWords Go.Proofs.YtgjddnaidjbhlaaGreatDoorW.PrintLast Go.Proofs.YtgjddnaidjbhlaaGreatDoorW.PrintMore Go.Proofs.YtgjddnaidjbhlaaGreatDoor.PlName Go.Proofs.YtgjddnaidjbhlaaGreatDoor.Pl
attribute [local go_sem ↓] Go.wp_at_zero Go.wp_at_succ

section
variable {w W : World} {nm : ByteArray} {l : List Step} {A : Option Addr} {c : Nat} {x : Inst} {B : Option Addr} {cb : Nat}
theorem Vw.alloc (h : Vw w W nm l A c x B cb) (o : Obj) : Vw w (W.alloc o) nm l A c x B cb := h.on (below_one _ _)
theorem Vw.drew (h : Vw w W nm l A c x B cb) : Vw w W.drew nm l A c x B cb := h.on (below_drew (Below.refl _ _))
end
theorem li_alloc {W : World} {A : Option Addr} {n : Nat} {xs : List Int} (h : Kd.C (Kd.int .i64) W A n xs) (o : Obj) : Kd.C (Kd.int .i64) (W.alloc o) A n xs := Kd.C_below h (below_one _ _)
theorem li_drew {W : World} {A : Option Addr} {n : Nat} {xs : List Int} (h : Kd.C (Kd.int .i64) W A n xs) : Kd.C (Kd.int .i64) W.drew A n xs := Kd.C_below h (below_drew (Below.refl _ _))
theorem li1 (W : World) (a : Int) : Kd.C (Kd.int .i64) (W.alloc (.cells #[.int .i64 a] 3)) (some ⟨W.heap.size, 0, none⟩) 1 [a] := lit_row W [a] _ rfl (by show 1 ≤ 1000000; omega)

theorem li1' (W : World) (a : Int) {g : Nat} (hg : g = W.heap.size) : Kd.C (Kd.int .i64) (W.alloc (.cells #[.int .i64 a] 3)) (some ⟨g, 0, none⟩) 1 [a] := hg ▸ li1 W a

set_option maxHeartbeats 64000000 in
set_option maxRecDepth 100000 in
theorem turned_calls (nm : ByteArray) (l : List Step) (A : Option Addr) (c : Nat) (x : Inst) (B : Option Addr) (cb : Nat) (w : World) (hl8 : l.length ≤ 8) (hS : StepsAt w A l) (hx : x.steps.length = l.length) (hB : Kd.C (Kd.int .i64) w B x.steps.length x.steps) :
 Calls Tryz.prog 167 #[.agg #[.string nm, .slice A l.length c, .int .i64 x.id, .string x.key, .string x.name, .int .i64 x.version, .int .i64 x.phase, .int .i64 x.cause, .slice B x.steps.length cb, .int .i64 (x.freed 0), .int .i64 (x.freed 1), .int .i64 (x.freed 2), .int .i64 (x.freed 3)]] w fun e w' => e = .returned (.bool (turnedL l x)) ∧ Below w.heap.size w w' := by
 have HV := Aside0.mk (Vw.start nm l A c x B cb w)
 have hcn := Aside0.mk (fun W (h : Vw w W nm l A c x B cb) (kind : Int) (S : Option Addr) (cs : Nat) (a : Int) (hs : Kd.C (Kd.int .i64) W S 1 [a]) => (by
  refine (count_calls nm l A c x B cb kind S cs [a] W (hS.below h.below) hl8 hx (Kd.C_below hB h.below) hs (by show 1 ≤ 8; omega)).mono ?_
  rintro e w' ⟨rfl, hb'⟩
  have hle : countL l x kind [a] ≤ 8 := Nat.le_trans (cnt_le _ _) hl8
  exact ⟨⟨_, rfl, count_some l x kind [a], by omega, by omega⟩, hb'⟩ : Calls Tryz.prog 136 #[.agg #[.string nm, .slice A l.length c, .int .i64 x.id, .string x.key, .string x.name, .int .i64 x.version, .int .i64 x.phase, .int .i64 x.cause, .slice B x.steps.length cb, .int .i64 (x.freed 0), .int .i64 (x.freed 1), .int .i64 (x.freed 2), .int .i64 (x.freed 3)], .int .i64 kind, .slice S 1 cs] W fun e w' => (∃ m : Int, e = .returned (.int .i64 m) ∧ decide (0 < m) = someL l x kind [a] ∧ 0 ≤ m ∧ m ≤ 8) ∧ Below W.heap.size W w'))
 have hal1 := Aside0.mk (fun W (h : Vw w W nm l A c x B cb) (kind : Int) (S : Option Addr) (cs : Nat) (a : Int) (hs : Kd.C (Kd.int .i64) W S 1 [a]) => (by exact all_calls nm l A c x B cb kind S cs [a] W (hS.below h.below) hl8 hx (Kd.C_below hB h.below) hs (by show 1 ≤ 8; omega) : Calls Tryz.prog 135 #[.agg #[.string nm, .slice A l.length c, .int .i64 x.id, .string x.key, .string x.name, .int .i64 x.version, .int .i64 x.phase, .int .i64 x.cause, .slice B x.steps.length cb, .int .i64 (x.freed 0), .int .i64 (x.freed 1), .int .i64 (x.freed 2), .int .i64 (x.freed 3)], .int .i64 kind, .slice S 1 cs] W fun e w' => e = .returned (.bool (allL l x kind [a])) ∧ Below W.heap.size W w'))
 have hal2 := Aside0.mk (fun W (h : Vw w W nm l A c x B cb) (kind : Int) (S : Option Addr) (cs : Nat) (a b : Int) (hs : Kd.C (Kd.int .i64) W S 2 [a, b]) => (by exact all_calls nm l A c x B cb kind S cs [a, b] W (hS.below h.below) hl8 hx (Kd.C_below hB h.below) hs (by show 2 ≤ 8; omega) : Calls Tryz.prog 135 #[.agg #[.string nm, .slice A l.length c, .int .i64 x.id, .string x.key, .string x.name, .int .i64 x.version, .int .i64 x.phase, .int .i64 x.cause, .slice B x.steps.length cb, .int .i64 (x.freed 0), .int .i64 (x.freed 1), .int .i64 (x.freed 2), .int .i64 (x.freed 3)], .int .i64 kind, .slice S 2 cs] W fun e w' => e = .returned (.bool (allL l x kind [a, b])) ∧ Below W.heap.size W w'))
 have hal3 := Aside0.mk (fun W (h : Vw w W nm l A c x B cb) (kind : Int) (S : Option Addr) (cs : Nat) (a b d : Int) (hs : Kd.C (Kd.int .i64) W S 3 [a, b, d]) => (by exact all_calls nm l A c x B cb kind S cs [a, b, d] W (hS.below h.below) hl8 hx (Kd.C_below hB h.below) hs (by show 3 ≤ 8; omega) : Calls Tryz.prog 135 #[.agg #[.string nm, .slice A l.length c, .int .i64 x.id, .string x.key, .string x.name, .int .i64 x.version, .int .i64 x.phase, .int .i64 x.cause, .slice B x.steps.length cb, .int .i64 (x.freed 0), .int .i64 (x.freed 1), .int .i64 (x.freed 2), .int .i64 (x.freed 3)], .int .i64 kind, .slice S 3 cs] W fun e w' => e = .returned (.bool (allL l x kind [a, b, d])) ∧ Below W.heap.size W w'))
 have hki := Aside0.mk (fun W (h : Vw w W nm l A c x B cb) => kinds_calls nm l A c x B cb 3 W (hS.below h.below) hl8)
 have HF : Aside0 (turnedL l x = if (decide (x.cause < 1) || decide (4 < x.cause)) = true then false
  else if (!allL l x 3 [0] || (((kindsL l 3 : Nat) : Int) == (l.length : Int) || !allL l x 2 [0, 3, 4])) = true then false
  else if ((someL l x 2 [3] || someL l x 2 [4]) && !allL l x 1 [2, 5]) = true then false
  else if ((someL l x 2 [3] && x.cause != 3) || (someL l x 2 [4] && x.cause != 4)) = true then false
  else if (x.cause == 3) = true then someL l x 0 [3] else if (x.cause == 4) = true then someL l x 0 [4] else true) := ⟨rfl⟩
 clear hS hx hB
 generalize turnedL l x = rr at *
 go_enter Tryz.func167, Tryz.ntmps167
 go_wp2
 generalize World.alloc w _ = w0 at *
 obtain ⟨hq0, hq1, hq2, hq3, hq4, hq5, hq6, hq7, hq8, hq9, hq10, hq11, hq12⟩ := HV.out.cells
 go_cut [3, 4] (fun v3 v4 wc => ∃ m3 m4 : Int, v3 = .int .i64 m3 ∧ v4 = .int .i64 m4 ∧ (decide (0 < m3) = someL l x 2 [3] ∧ 0 ≤ m3 ∧ m3 ≤ 8) ∧ (decide (0 < m4) = someL l x 2 [4] ∧ 0 ≤ m4 ∧ m4 ≤ 8) ∧ Vw w wc nm l A c x B cb)
 case first =>
  go_region_held3 (fun w' => w'.cell? ⟨w.heap.size, 0, none⟩ = some (.string nm) ∧ w'.cell? ⟨w.heap.size, 1, none⟩ = some (.slice A l.length c) ∧ w'.cell? ⟨w.heap.size, 2, none⟩ = some (.int .i64 x.id) ∧ w'.cell? ⟨w.heap.size, 3, none⟩ = some (.string x.key) ∧ w'.cell? ⟨w.heap.size, 4, none⟩ = some (.string x.name) ∧ w'.cell? ⟨w.heap.size, 5, none⟩ = some (.int .i64 x.version) ∧ w'.cell? ⟨w.heap.size, 6, none⟩ = some (.int .i64 x.phase) ∧ w'.cell? ⟨w.heap.size, 7, none⟩ = some (.int .i64 x.cause) ∧ w'.cell? ⟨w.heap.size, 8, none⟩ = some (.slice B x.steps.length cb) ∧ w'.cell? ⟨w.heap.size, 9, none⟩ = some (.int .i64 (x.freed 0)) ∧ w'.cell? ⟨w.heap.size, 10, none⟩ = some (.int .i64 (x.freed 1)) ∧ w'.cell? ⟨w.heap.size, 11, none⟩ = some (.int .i64 (x.freed 2)) ∧ w'.cell? ⟨w.heap.size, 12, none⟩ = some (.int .i64 (x.freed 3))) (first | go_keep | exact H2.out.cells | exact H1.out.cells) (first | (go_at_call 136; have hg1 := H1; refine (hcn.out _ (by repeat (first | exact H1.out | refine Vw.alloc ?_ _ | refine Vw.drew ?_)) 2 _ _ 4 (by (try refine Kd.C_below ?_ hb1); repeat (first | exact li1' _ _ (by simp) | refine li_alloc ?_ _ | refine li_drew ?_))).mono ?_; rintro e w2 ⟨⟨m2, rfl, hm2⟩, hb2⟩; replace hm2 := Aside0.mk hm2; have H2 : Aside0 (Vw w w2 nm l A c x B cb) := ⟨Vw.on (by repeat (first | exact H1.out | refine Vw.alloc ?_ _ | refine Vw.drew ?_)) hb2⟩) | (go_at_call 136; refine (hcn.out _ (by repeat (first | exact HV.out | refine Vw.alloc ?_ _ | refine Vw.drew ?_)) 2 _ _ 3 (by repeat (first | exact li1' _ _ (by simp) | refine li_alloc ?_ _ | refine li_drew ?_))).mono ?_; rintro e w1 ⟨⟨m1, rfl, hm1⟩, hb1⟩; replace hm1 := Aside0.mk hm1; have H1 : Aside0 (Vw w w1 nm l A c x B cb) := ⟨Vw.on (by repeat (first | exact HV.out | refine Vw.alloc ?_ _ | refine Vw.drew ?_)) hb1⟩; obtain ⟨hr0, hr1, hr2, hr3, hr4, hr5, hr6, hr7, hr8, hr9, hr10, hr11, hr12⟩ := H1.out.cells))
  all_goals
   go_wp2_with fail
   go_meet
   exact ⟨_, _, rfl, rfl, hm1.out, hm2.out, H2.out⟩
 case rest =>
  clear HV hq0 hq1 hq2 hq3 hq4 hq5 hq6 hq7 hq8 hq9 hq10 hq11 hq12
  obtain ⟨m3, m4, rfl, rfl, ⟨hp3, hl3, hu3⟩, ⟨hp4, hl4, hu4⟩, hN⟩ := hcut
  have HP := Aside0.mk (And.intro hp3 hp4)
  clear hp3 hp4
  have HG := Aside0.mk hN
  obtain ⟨hq0, hq1, hq2, hq3, hq4, hq5, hq6, hq7, hq8, hq9, hq10, hq11, hq12⟩ := hN.cells
  clear hN
  generalize hc1 : decide (x.cause < 1) = c1 at *
  generalize hc4 : decide (4 < x.cause) = c4 at *
  cases c1
  · cases c4
    · generalize ha3 : allL l x 3 [0] = a3 at *
      generalize ha2 : allL l x 2 [0, 3, 4] = a2 at *
      generalize ha1 : allL l x 1 [2, 5] = a1 at *
      replace ha3 := Aside0.mk ha3
      replace ha2 := Aside0.mk ha2
      replace ha1 := Aside0.mk ha1
      generalize hk3 : (((kindsL l 3 : Nat) : Int) == (l.length : Int)) = k3 at *
      cases a3
      · go_wp2_with (first | (go_at_call 135; refine (hal1.out _ (HG.out.alloc _) 3 _ _ 0 (lit_row _ [0] _ rfl (by show 1 ≤ 1000000; omega))).mono ?_; rw [ha3.out]; rintro e w5 ⟨rfl, hb5⟩; have H5 := Aside0.mk ((HG.out.alloc _).on hb5); clear hb5; obtain ⟨hq0, hq1, hq2, hq3, hq4, hq5, hq6, hq7, hq8, hq9, hq10, hq11, hq12⟩ := H5.out.cells))
        go_ret
        exact ⟨by rw [HF.out]; rfl, H5.out.below⟩
      · go_wp2_with (first | (go_at_call 135; refine (hal1.out _ (HG.out.alloc _) 3 _ _ 0 (lit_row _ [0] _ rfl (by show 1 ≤ 1000000; omega))).mono ?_; rw [ha3.out]; rintro e w5 ⟨rfl, hb5⟩; have H5 := Aside0.mk ((HG.out.alloc _).on hb5); clear hb5; obtain ⟨hq0, hq1, hq2, hq3, hq4, hq5, hq6, hq7, hq8, hq9, hq10, hq11, hq12⟩ := H5.out.cells))
        go_cut [22] (fun v22 wc => v22 = .bool k3 ∧ Vw w wc nm l A c x B cb)
        case first =>
         go_region_held3 (fun w' => w'.cell? ⟨w.heap.size, 0, none⟩ = some (.string nm) ∧ w'.cell? ⟨w.heap.size, 1, none⟩ = some (.slice A l.length c) ∧ w'.cell? ⟨w.heap.size, 2, none⟩ = some (.int .i64 x.id) ∧ w'.cell? ⟨w.heap.size, 3, none⟩ = some (.string x.key) ∧ w'.cell? ⟨w.heap.size, 4, none⟩ = some (.string x.name) ∧ w'.cell? ⟨w.heap.size, 5, none⟩ = some (.int .i64 x.version) ∧ w'.cell? ⟨w.heap.size, 6, none⟩ = some (.int .i64 x.phase) ∧ w'.cell? ⟨w.heap.size, 7, none⟩ = some (.int .i64 x.cause) ∧ w'.cell? ⟨w.heap.size, 8, none⟩ = some (.slice B x.steps.length cb) ∧ w'.cell? ⟨w.heap.size, 9, none⟩ = some (.int .i64 (x.freed 0)) ∧ w'.cell? ⟨w.heap.size, 10, none⟩ = some (.int .i64 (x.freed 1)) ∧ w'.cell? ⟨w.heap.size, 11, none⟩ = some (.int .i64 (x.freed 2)) ∧ w'.cell? ⟨w.heap.size, 12, none⟩ = some (.int .i64 (x.freed 3))) (first | go_keep | exact H6.out.cells) (first | (go_at_call 33; refine (hki.out _ (by repeat (first | exact H5.out | refine Vw.alloc ?_ _ | refine Vw.drew ?_))).mono ?_; rintro e w6 ⟨rfl, hb6⟩; have H6 : Aside0 (Vw w w6 nm l A c x B cb) := ⟨Vw.on (by repeat (first | exact H5.out | refine Vw.alloc ?_ _ | refine Vw.drew ?_)) hb6⟩))
         all_goals
          go_wp2_with fail
          go_meet
          exact ⟨by first | rfl | rw [hk3], H6.out⟩
        case rest =>
         clear hq0 hq1 hq2 hq3 hq4 hq5 hq6 hq7 hq8 hq9 hq10 hq11 hq12
         obtain ⟨rfl, hN6⟩ := hcut
         have H6 := Aside0.mk hN6
         obtain ⟨hq0, hq1, hq2, hq3, hq4, hq5, hq6, hq7, hq8, hq9, hq10, hq11, hq12⟩ := hN6.cells
         clear hN6 hk3
         cases k3
         · cases a2
           · go_wp2_with (first | (go_at_call 135; refine (hal3.out _ (H6.out.alloc _) 2 _ _ 0 3 4 (lit_row _ [0, 3, 4] _ rfl (by show 3 ≤ 1000000; omega))).mono ?_; rw [ha2.out]; rintro e w7 ⟨rfl, hb7⟩; have H7 := Aside0.mk ((H6.out.alloc _).on hb7); clear hb7; obtain ⟨hq0, hq1, hq2, hq3, hq4, hq5, hq6, hq7, hq8, hq9, hq10, hq11, hq12⟩ := H7.out.cells))
             go_ret
             exact ⟨by rw [HF.out]; rfl, H7.out.below⟩
           · obtain ⟨hp3, hp4⟩ := HP.out
             have hne3 : (x.cause != 3) = !(x.cause == 3) := rfl
             have hne4 : (x.cause != 4) = !(x.cause == 4) := rfl
             generalize hE3 : (x.cause == 3) = e3 at *
             generalize hE4 : (x.cause == 4) = e4 at *
             generalize someL l x 2 [3] = s3 at *
             generalize someL l x 2 [4] = s4 at *
             have hz : decide (0 < m3 + m4) = (s3 || s4) := by
              rw [← hp3, ← hp4, Bool.eq_iff_iff]
              simp
              omega
             clear HP
             rcases (by cases s3 <;> cases s4 <;> simp : (s3 = false ∧ s4 = false) ∨ (s3 = true ∧ s4 = false) ∨ (s3 = false ∧ s4 = true) ∨ (s3 = true ∧ s4 = true)) with ⟨rfl, rfl⟩ | ⟨rfl, rfl⟩ | ⟨rfl, rfl⟩ | ⟨rfl, rfl⟩
             case' inr.inr.inr => (cases a1; rotate_left; cases e3 <;> cases e4)
             case' inr.inr.inl => (cases a1; rotate_left; cases e3 <;> cases e4)
             case' inr.inl => (cases a1; rotate_left; cases e3 <;> cases e4)
             case' inl => (cases e3 <;> cases e4)
             all_goals
              simp only [Bool.or_true, Bool.or_false, Bool.true_or, Bool.not_true, Bool.not_false] at hz hne3 hne4
              go_wp2_with (first | (go_at_call 135; have hg7 := H7; refine (hal2.out _ (H7.out.alloc _) 1 _ _ 2 5 (lit_row _ [2, 5] _ rfl (by show 2 ≤ 1000000; omega))).mono ?_; rw [ha1.out]; rintro e w8 ⟨rfl, hb8⟩; have H8 := Aside0.mk ((H7.out.alloc _).on hb8); clear hb8; obtain ⟨hq0, hq1, hq2, hq3, hq4, hq5, hq6, hq7, hq8, hq9, hq10, hq11, hq12⟩ := H8.out.cells) | (go_at_call 135; refine (hal3.out _ (H6.out.alloc _) 2 _ _ 0 3 4 (lit_row _ [0, 3, 4] _ rfl (by show 3 ≤ 1000000; omega))).mono ?_; rw [ha2.out]; rintro e w7 ⟨rfl, hb7⟩; have H7 := Aside0.mk ((H6.out.alloc _).on hb7); clear hb7; obtain ⟨hq0, hq1, hq2, hq3, hq4, hq5, hq6, hq7, hq8, hq9, hq10, hq11, hq12⟩ := H7.out.cells) | (go_at_call 136; have hg8 := H8; refine (hcn.out _ (H8.out.alloc _) 0 _ _ _ (li1 _ _)).mono ?_; rintro e w9 ⟨⟨m9, rfl, hm9, _, _⟩, hb9⟩; replace hm9 := Aside0.mk hm9; have H9 := Aside0.mk ((H8.out.alloc _).on hb9); clear hb9) | (go_at_call 136; refine (hcn.out _ (H7.out.alloc _) 0 _ _ _ (li1 _ _)).mono ?_; rintro e w9 ⟨⟨m9, rfl, hm9, _, _⟩, hb9⟩; replace hm9 := Aside0.mk hm9; have H9 := Aside0.mk ((H7.out.alloc _).on hb9); clear hb9))
              go_ret
              have HQ := HF.out; rw [hne3, hne4] at HQ; exact ⟨by first | (rw [HQ]; rfl) | (rw [show rr = someL l x 0 [3] from HQ, ← hm9.out]; rfl) | (rw [show rr = someL l x 0 [4] from HQ, ← hm9.out]; rfl), by first | exact H9.out.below | exact H8.out.below | exact H7.out.below⟩
         · go_wp2
           go_ret
           exact ⟨by rw [HF.out]; rfl, H6.out.below⟩
    · go_wp2
      go_ret
      exact ⟨by rw [HF.out]; rfl, HG.out.below⟩
  · go_wp2
    go_ret
    exact ⟨by rw [HF.out]; rfl, HG.out.below⟩
end Go.Proofs.YtgjddnaidjbhlaaGreatDoor.Ph

/- phase.view: phase (P19): walked by hand. -/
namespace Go.Proofs.YtgjddnaidjbhlaaGreatDoor.Ph
open Go.RowKit Go.IntWalk Go.Proofs.YtgjddnaidjbhlaaGreatDoorW.PrintWords Go.Proofs.YtgjddnaidjbhlaaGreatDoorW.PrintLast Go.Proofs.YtgjddnaidjbhlaaGreatDoorW.PrintMore Go.Proofs.YtgjddnaidjbhlaaGreatDoor.PlName Go.Proofs.YtgjddnaidjbhlaaGreatDoor.Pl
attribute [local go_sem ↓] Go.wp_at_zero Go.wp_at_succ

set_option maxHeartbeats 64000000 in
set_option maxRecDepth 100000 in
theorem phase_calls (nm : ByteArray) (l : List Step) (A : Option Addr) (c : Nat) (x : Inst) (B : Option Addr) (cb : Nat) (w : World) (hok : defOk nm l = true) (hnm : nm.size ≤ 140737488351232) (hS : StepsAt w A l) (hb : ∀ s ∈ l, StepB s) (hc : l.length ≤ c) (hT : TabsAt w) (hx : x.steps.length = l.length) (hB : Kd.C (Kd.int .i64) w B x.steps.length x.steps) :
 Calls Tryz.prog 113 #[.agg #[.string nm, .slice A l.length c, .int .i64 x.id, .string x.key, .string x.name, .int .i64 x.version, .int .i64 x.phase, .int .i64 x.cause, .slice B x.steps.length cb, .int .i64 (x.freed 0), .int .i64 (x.freed 1), .int .i64 (x.freed 2), .int .i64 (x.freed 3)]] w fun e w' => e = .returned (.bool (phaseL l x)) ∧ Below w.heap.size w w' := by
 have hl8 := (defOk_len hok).2.1
 have HV := Aside0.mk (Vw.start nm l A c x B cb w)
 have hfr := Aside0.mk (fun W (h : Vw w W nm l A c x B cb) => freed_calls nm l A c x B cb W hok hnm (hS.below h.below) hb hc (tabs_on hT h.below))
 have htu := Aside0.mk (fun W (h : Vw w W nm l A c x B cb) => turned_calls nm l A c x B cb W hl8 (hS.below h.below) hx (Kd.C_below hB h.below))
 have hcn2 := Aside0.mk (fun W (h : Vw w W nm l A c x B cb) (S : Option Addr) (cs : Nat) (hs : Kd.C (Kd.int .i64) W S 2 [1, 2]) => (by
  refine (count_calls nm l A c x B cb 0 S cs [1, 2] W (hS.below h.below) hl8 hx (Kd.C_below hB h.below) hs (by show 2 ≤ 8; omega)).mono ?_
  rintro e w' ⟨rfl, hb'⟩
  exact ⟨⟨_, rfl, count_none l x 0 [1, 2]⟩, hb'⟩ : Calls Tryz.prog 136 #[.agg #[.string nm, .slice A l.length c, .int .i64 x.id, .string x.key, .string x.name, .int .i64 x.version, .int .i64 x.phase, .int .i64 x.cause, .slice B x.steps.length cb, .int .i64 (x.freed 0), .int .i64 (x.freed 1), .int .i64 (x.freed 2), .int .i64 (x.freed 3)], .int .i64 0, .slice S 2 cs] W fun e w' => (∃ m : Int, e = .returned (.int .i64 m) ∧ (m == 0) = !someL l x 0 [1, 2]) ∧ Below W.heap.size W w'))
 have hal1 := Aside0.mk (fun W (h : Vw w W nm l A c x B cb) (kind : Int) (S : Option Addr) (cs : Nat) (a : Int) (hs : Kd.C (Kd.int .i64) W S 1 [a]) => (by exact all_calls nm l A c x B cb kind S cs [a] W (hS.below h.below) hl8 hx (Kd.C_below hB h.below) hs (by show 1 ≤ 8; omega) : Calls Tryz.prog 135 #[.agg #[.string nm, .slice A l.length c, .int .i64 x.id, .string x.key, .string x.name, .int .i64 x.version, .int .i64 x.phase, .int .i64 x.cause, .slice B x.steps.length cb, .int .i64 (x.freed 0), .int .i64 (x.freed 1), .int .i64 (x.freed 2), .int .i64 (x.freed 3)], .int .i64 kind, .slice S 1 cs] W fun e w' => e = .returned (.bool (allL l x kind [a])) ∧ Below W.heap.size W w'))
 have hki := Aside0.mk (fun W (h : Vw w W nm l A c x B cb) => kinds_calls nm l A c x B cb 2 W (hS.below h.below) hl8)
 have HF : Aside0 (phaseL l x = if (x.phase == 1) = true then (x.cause == 0 && allL l x 3 [0]) && (allL l x 2 [0] && (((kindsL l 2 : Nat) : Int) == 1 || !allL l x 1 [2]))
  else if (x.phase == 2) = true then (x.cause == 0 && allL l x 3 [0]) && (allL l x 1 [2] && (((kindsL l 2 : Nat) : Int) == 1 && allL l x 2 [1]))
  else if (x.phase == 3) = true then x.cause == 0 && (allL l x 1 [2] && allL l x 2 [2])
  else if (x.phase == 4) = true then x.cause == 0 && (allL l x 0 [2] && !doneL l x)
  else if (x.phase == 5) = true then turnedL l x
  else if (x.phase == 6) = true then turnedL l x && (!someL l x 0 [1, 2] && !doneL l x)
  else false) := ⟨rfl⟩
 clear hok hnm hS hb hc hT hx hB
 generalize phaseL l x = rr at *
 generalize doneL l x = dn at *
 generalize mayL l x = mr at *
 generalize turnedL l x = tu at *
 generalize someL l x 0 [1, 2] = sm at *
 go_enter Tryz.func113, Tryz.ntmps113
 go_wp2_with (first | (go_at_call 114; refine (hfr.out _ HV.out).mono ?_; rintro e w1 ⟨rfl, hb1⟩; have H1 := Aside0.mk (HV.out.on hb1); clear hb1; obtain ⟨hq0, hq1, hq2, hq3, hq4, hq5, hq6, hq7, hq8, hq9, hq10, hq11, hq12⟩ := H1.out.cells))
 go_cut [5, 6] (fun v5 v6 wc => v5 = .bool (allL l x 1 [2]) ∧ v6 = .int .i64 (kindsL l 2 : Nat) ∧ Vw w wc nm l A c x B cb)
 case first =>
  go_region_held3 (fun w' => w'.cell? ⟨w.heap.size, 0, none⟩ = some (.string nm) ∧ w'.cell? ⟨w.heap.size, 1, none⟩ = some (.slice A l.length c) ∧ w'.cell? ⟨w.heap.size, 2, none⟩ = some (.int .i64 x.id) ∧ w'.cell? ⟨w.heap.size, 3, none⟩ = some (.string x.key) ∧ w'.cell? ⟨w.heap.size, 4, none⟩ = some (.string x.name) ∧ w'.cell? ⟨w.heap.size, 5, none⟩ = some (.int .i64 x.version) ∧ w'.cell? ⟨w.heap.size, 6, none⟩ = some (.int .i64 x.phase) ∧ w'.cell? ⟨w.heap.size, 7, none⟩ = some (.int .i64 x.cause) ∧ w'.cell? ⟨w.heap.size, 8, none⟩ = some (.slice B x.steps.length cb) ∧ w'.cell? ⟨w.heap.size, 9, none⟩ = some (.int .i64 (x.freed 0)) ∧ w'.cell? ⟨w.heap.size, 10, none⟩ = some (.int .i64 (x.freed 1)) ∧ w'.cell? ⟨w.heap.size, 11, none⟩ = some (.int .i64 (x.freed 2)) ∧ w'.cell? ⟨w.heap.size, 12, none⟩ = some (.int .i64 (x.freed 3))) (first | go_keep | exact H3.out.cells | exact H2.out.cells) (first | (go_at_call 135; refine (hal1.out _ (by repeat (first | exact H1.out | refine Vw.alloc ?_ _ | refine Vw.drew ?_)) 1 _ _ 2 (by repeat (first | exact li1' _ _ (by simp) | refine li_alloc ?_ _ | refine li_drew ?_))).mono ?_; rintro e w2 ⟨rfl, hb2⟩; have H2 : Aside0 (Vw w w2 nm l A c x B cb) := ⟨Vw.on (by repeat (first | exact H1.out | refine Vw.alloc ?_ _ | refine Vw.drew ?_)) hb2⟩; obtain ⟨hr0, hr1, hr2, hr3, hr4, hr5, hr6, hr7, hr8, hr9, hr10, hr11, hr12⟩ := H2.out.cells) | (go_at_call 33; have hg2 := H2; refine (hki.out _ (by repeat (first | exact H2.out | refine Vw.alloc ?_ _ | refine Vw.drew ?_))).mono ?_; rintro e w3 ⟨rfl, hb3⟩; have H3 : Aside0 (Vw w w3 nm l A c x B cb) := ⟨Vw.on (by repeat (first | exact H2.out | refine Vw.alloc ?_ _ | refine Vw.drew ?_)) hb3⟩))
  all_goals
   go_wp2_with fail
   go_meet
   exact ⟨rfl, rfl, H3.out⟩
 case rest =>
  clear HV H1 hq0 hq1 hq2 hq3 hq4 hq5 hq6 hq7 hq8 hq9 hq10 hq11 hq12
  obtain ⟨rfl, rfl, hN⟩ := hcut
  have HG := Aside0.mk hN
  obtain ⟨hq0, hq1, hq2, hq3, hq4, hq5, hq6, hq7, hq8, hq9, hq10, hq11, hq12⟩ := HG.out.cells
  clear hN
  generalize hc0 : (x.cause == 0) = c0 at *
  generalize hk1 : (((kindsL l 2 : Nat) : Int) == 1) = k1 at *
  generalize ha12 : allL l x 1 [2] = a12 at *
  generalize ha30 : allL l x 3 [0] = a30 at *
  generalize ha20 : allL l x 2 [0] = a20 at *
  generalize ha21 : allL l x 2 [1] = a21 at *
  generalize ha22 : allL l x 2 [2] = a22 at *
  generalize ha02 : allL l x 0 [2] = a02 at *
  replace ha12 := Aside0.mk ha12
  replace ha30 := Aside0.mk ha30
  replace ha20 := Aside0.mk ha20
  replace ha21 := Aside0.mk ha21
  replace ha22 := Aside0.mk ha22
  replace ha02 := Aside0.mk ha02
  go_upto_region 3 with fail
  go_cut [7] (fun v7 wc => v7 = .bool (c0 && a30) ∧ Vw w wc nm l A c x B cb)
  case first =>
   cases c0
   · go_wp2_with (first | (go_at_call 135; refine (hal1.out _ (HG.out.alloc _) 3 _ _ 0 (lit_row _ [0] _ rfl (by show 1 ≤ 1000000; omega))).mono ?_; rw [ha30.out]; rintro e w5 ⟨rfl, hb5⟩; have H5 := Aside0.mk ((HG.out.alloc _).on hb5); clear hb5))
     go_meet
     exact ⟨rfl, HG.out⟩
   · go_wp2_with (first | (go_at_call 135; refine (hal1.out _ (HG.out.alloc _) 3 _ _ 0 (lit_row _ [0] _ rfl (by show 1 ≤ 1000000; omega))).mono ?_; rw [ha30.out]; rintro e w5 ⟨rfl, hb5⟩; have H5 := Aside0.mk ((HG.out.alloc _).on hb5); clear hb5))
     go_meet
     exact ⟨rfl, H5.out⟩
  case rest =>
  clear HG hq0 hq1 hq2 hq3 hq4 hq5 hq6 hq7 hq8 hq9 hq10 hq11 hq12
  obtain ⟨rfl, hN⟩ := hcut
  have HG := Aside0.mk hN
  obtain ⟨hq0, hq1, hq2, hq3, hq4, hq5, hq6, hq7, hq8, hq9, hq10, hq11, hq12⟩ := HG.out.cells
  clear hN ha30
  generalize (c0 && a30) = fw at *
  have hcases : x.phase = 1 ∨ x.phase = 2 ∨ x.phase = 3 ∨ x.phase = 4 ∨ x.phase = 5 ∨ x.phase = 6 ∨ (x.phase ≠ 1 ∧ x.phase ≠ 2 ∧ x.phase ≠ 3 ∧ x.phase ≠ 4 ∧ x.phase ≠ 5 ∧ x.phase ≠ 6) := by omega
  rcases hcases with e | e | e | e | e | e | ⟨n1, n2, n3, n4, n5, n6⟩
  case' inr.inr.inr.inr.inr.inr => (have hp1 : (x.phase == 1) = false := beq_eq_false_iff_ne.2 n1; have hp2 : (x.phase == 2) = false := beq_eq_false_iff_ne.2 n2; have hp3 : (x.phase == 3) = false := beq_eq_false_iff_ne.2 n3; have hp4 : (x.phase == 4) = false := beq_eq_false_iff_ne.2 n4; have hp5 : (x.phase == 5) = false := beq_eq_false_iff_ne.2 n5; have hp6 : (x.phase == 6) = false := beq_eq_false_iff_ne.2 n6; clear n1 n2 n3 n4 n5 n6)
  case' inr.inr.inr.inr.inr.inl => (have hp1 : (x.phase == 1) = false := (by rw [e]; rfl); have hp2 : (x.phase == 2) = false := (by rw [e]; rfl); have hp3 : (x.phase == 3) = false := (by rw [e]; rfl); have hp4 : (x.phase == 4) = false := (by rw [e]; rfl); have hp5 : (x.phase == 5) = false := (by rw [e]; rfl); have hp6 : (x.phase == 6) = true := (by rw [e]; rfl); clear e; (cases tu; rotate_left; cases sm))
  case' inr.inr.inr.inr.inl => (have hp1 : (x.phase == 1) = false := (by rw [e]; rfl); have hp2 : (x.phase == 2) = false := (by rw [e]; rfl); have hp3 : (x.phase == 3) = false := (by rw [e]; rfl); have hp4 : (x.phase == 4) = false := (by rw [e]; rfl); have hp5 : (x.phase == 5) = true := (by rw [e]; rfl); clear e; (skip))
  case' inr.inr.inr.inl => (have hp1 : (x.phase == 1) = false := (by rw [e]; rfl); have hp2 : (x.phase == 2) = false := (by rw [e]; rfl); have hp3 : (x.phase == 3) = false := (by rw [e]; rfl); have hp4 : (x.phase == 4) = true := (by rw [e]; rfl); clear e; (cases c0; rotate_left; cases a02))
  case' inr.inr.inl => (have hp1 : (x.phase == 1) = false := (by rw [e]; rfl); have hp2 : (x.phase == 2) = false := (by rw [e]; rfl); have hp3 : (x.phase == 3) = true := (by rw [e]; rfl); clear e; (cases c0; rotate_left; cases a12; rotate_left; cases a22))
  case' inr.inl => (have hp1 : (x.phase == 1) = false := (by rw [e]; rfl); have hp2 : (x.phase == 2) = true := (by rw [e]; rfl); clear e; (cases fw; rotate_left; cases a12; rotate_left; cases k1; rotate_left; cases a21))
  case' inl => (have hp1 : (x.phase == 1) = true := (by rw [e]; rfl); clear e; (cases fw; rotate_left; cases a20; rotate_left; cases k1))
  all_goals
   go_wp2_with (first | (go_at_call 136; refine (hcn2.out _ (H6.out.alloc _) _ _ (lit_row _ [1, 2] _ rfl (by show 2 ≤ 1000000; omega))).mono ?_; rintro e w7 ⟨⟨m7, rfl, hm7⟩, hb7⟩; (try simp only [Bool.not_true, Bool.not_false] at hm7); have H7 := Aside0.mk ((H6.out.alloc _).on hb7); clear hb7) | (go_at_call 167; refine (htu.out _ HG.out).mono ?_; rintro e w6 ⟨rfl, hb6⟩; have H6 := Aside0.mk (HG.out.on hb6); clear hb6; obtain ⟨hs0, hs1, hs2, hs3, hs4, hs5, hs6, hs7, hs8, hs9, hs10, hs11, hs12⟩ := H6.out.cells) | (go_at_call 135; with_reducible refine (hal1.out _ (HG.out.alloc _) 2 _ _ 0 (li1 _ _)).mono ?_; rw [ha20.out]; rintro e w6 ⟨rfl, hb6⟩; have H6 := Aside0.mk ((HG.out.alloc _).on hb6); clear hb6; obtain ⟨hs0, hs1, hs2, hs3, hs4, hs5, hs6, hs7, hs8, hs9, hs10, hs11, hs12⟩ := H6.out.cells) | (go_at_call 135; with_reducible refine (hal1.out _ (HG.out.alloc _) 2 _ _ 1 (li1 _ _)).mono ?_; rw [ha21.out]; rintro e w6 ⟨rfl, hb6⟩; have H6 := Aside0.mk ((HG.out.alloc _).on hb6); clear hb6; obtain ⟨hs0, hs1, hs2, hs3, hs4, hs5, hs6, hs7, hs8, hs9, hs10, hs11, hs12⟩ := H6.out.cells) | (go_at_call 135; with_reducible refine (hal1.out _ (HG.out.alloc _) 2 _ _ 2 (li1 _ _)).mono ?_; rw [ha22.out]; rintro e w6 ⟨rfl, hb6⟩; have H6 := Aside0.mk ((HG.out.alloc _).on hb6); clear hb6; obtain ⟨hs0, hs1, hs2, hs3, hs4, hs5, hs6, hs7, hs8, hs9, hs10, hs11, hs12⟩ := H6.out.cells) | (go_at_call 135; with_reducible refine (hal1.out _ (HG.out.alloc _) 0 _ _ 2 (li1 _ _)).mono ?_; rw [ha02.out]; rintro e w6 ⟨rfl, hb6⟩; have H6 := Aside0.mk ((HG.out.alloc _).on hb6); clear hb6; obtain ⟨hs0, hs1, hs2, hs3, hs4, hs5, hs6, hs7, hs8, hs9, hs10, hs11, hs12⟩ := H6.out.cells))
   go_ret
   have HQ := HF.out
   first | rw [hp1, hp2, hp3, hp4, hp5, hp6] at HQ | rw [hp1, hp2, hp3, hp4, hp5] at HQ | rw [hp1, hp2, hp3, hp4] at HQ | rw [hp1, hp2, hp3] at HQ | rw [hp1, hp2] at HQ | rw [hp1] at HQ
   exact ⟨by rw [HQ]; rfl, by first | exact H7.out.below | exact H6.out.below | exact HG.out.below⟩
end Go.Proofs.YtgjddnaidjbhlaaGreatDoor.Ph

/- phase.view: sort (P19): walked by hand. -/
namespace Go.Proofs.YtgjddnaidjbhlaaGreatDoor.Ph
open Go.RowKit Go.IntWalk Go.Proofs.YtgjddnaidjbhlaaGreatDoorW.PrintWords Go.Proofs.YtgjddnaidjbhlaaGreatDoorW.PrintLast Go.Proofs.YtgjddnaidjbhlaaGreatDoorW.PrintMore Go.Proofs.YtgjddnaidjbhlaaGreatDoor.PlName Go.Proofs.YtgjddnaidjbhlaaGreatDoor.Pl

/-- A view and its instance lie in boxes. -/
structure Sv (w W : World) (nm : ByteArray) (l : List Step) (A : Option Addr) (c : Nat) (x : Inst) (B : Option Addr) (cb : Nat) : Prop where
 vw : Vw w W nm l A c x B cb
 xbox : W.heap[w.heap.size + 1]? = some (.cells #[.int .i64 x.id, .string x.key, .string x.name, .int .i64 x.version, .int .i64 x.phase, .int .i64 x.cause, .slice B x.steps.length cb, .int .i64 (x.freed 0), .int .i64 (x.freed 1), .int .i64 (x.freed 2), .int .i64 (x.freed 3)] 28 (0, 0))
section
variable {w W W2 : World} {nm : ByteArray} {l : List Step} {A : Option Addr} {c : Nat} {x : Inst} {B : Option Addr} {cb : Nat}
theorem Sv.on (h : Sv w W nm l A c x B cb) (hb : Below W.heap.size W W2) : Sv w W2 nm l A c x B cb := ⟨h.vw.on hb, row_on hb h.xbox⟩
theorem Sv.start (nm : ByteArray) (l : List Step) (A : Option Addr) (c : Nat) (x : Inst) (B : Option Addr) (cb : Nat) (w : World) : Sv w ((w.alloc (.cells #[.string nm, .slice A l.length c, .int .i64 x.id, .string x.key, .string x.name, .int .i64 x.version, .int .i64 x.phase, .int .i64 x.cause, .slice B x.steps.length cb, .int .i64 (x.freed 0), .int .i64 (x.freed 1), .int .i64 (x.freed 2), .int .i64 (x.freed 3)] 65)).alloc (.cells #[.int .i64 x.id, .string x.key, .string x.name, .int .i64 x.version, .int .i64 x.phase, .int .i64 x.cause, .slice B x.steps.length cb, .int .i64 (x.freed 0), .int .i64 (x.freed 1), .int .i64 (x.freed 2), .int .i64 (x.freed 3)] 28)) nm l A c x B cb := ⟨(Vw.start nm l A c x B cb w).on (below_one _ _), alloc_two w _ _⟩
theorem Sv.cells (h : Sv w W nm l A c x B cb) : (W.cell? ⟨w.heap.size, 0, none⟩ = some (.string nm) ∧ W.cell? ⟨w.heap.size, 1, none⟩ = some (.slice A l.length c) ∧ W.cell? ⟨w.heap.size, 2, none⟩ = some (.int .i64 x.id) ∧ W.cell? ⟨w.heap.size, 3, none⟩ = some (.string x.key) ∧ W.cell? ⟨w.heap.size, 4, none⟩ = some (.string x.name) ∧ W.cell? ⟨w.heap.size, 5, none⟩ = some (.int .i64 x.version) ∧ W.cell? ⟨w.heap.size, 6, none⟩ = some (.int .i64 x.phase) ∧ W.cell? ⟨w.heap.size, 7, none⟩ = some (.int .i64 x.cause) ∧ W.cell? ⟨w.heap.size, 8, none⟩ = some (.slice B x.steps.length cb) ∧ W.cell? ⟨w.heap.size, 9, none⟩ = some (.int .i64 (x.freed 0)) ∧ W.cell? ⟨w.heap.size, 10, none⟩ = some (.int .i64 (x.freed 1)) ∧ W.cell? ⟨w.heap.size, 11, none⟩ = some (.int .i64 (x.freed 2)) ∧ W.cell? ⟨w.heap.size, 12, none⟩ = some (.int .i64 (x.freed 3))) ∧ W.cell? ⟨w.heap.size + 1, 0, none⟩ = some (.int .i64 x.id) ∧ W.cell? ⟨w.heap.size + 1, 1, none⟩ = some (.string x.key) ∧ W.cell? ⟨w.heap.size + 1, 2, none⟩ = some (.string x.name) ∧ W.cell? ⟨w.heap.size + 1, 3, none⟩ = some (.int .i64 x.version) ∧ W.cell? ⟨w.heap.size + 1, 4, none⟩ = some (.int .i64 x.phase) ∧ W.cell? ⟨w.heap.size + 1, 5, none⟩ = some (.int .i64 x.cause) ∧ W.cell? ⟨w.heap.size + 1, 6, none⟩ = some (.slice B x.steps.length cb) ∧ W.cell? ⟨w.heap.size + 1, 7, none⟩ = some (.int .i64 (x.freed 0)) ∧ W.cell? ⟨w.heap.size + 1, 8, none⟩ = some (.int .i64 (x.freed 1)) ∧ W.cell? ⟨w.heap.size + 1, 9, none⟩ = some (.int .i64 (x.freed 2)) ∧ W.cell? ⟨w.heap.size + 1, 10, none⟩ = some (.int .i64 (x.freed 3)) := ⟨h.vw.cells, row_cell h.xbox rfl, row_cell h.xbox rfl, row_cell h.xbox rfl, row_cell h.xbox rfl, row_cell h.xbox rfl, row_cell h.xbox rfl, row_cell h.xbox rfl, row_cell h.xbox rfl, row_cell h.xbox rfl, row_cell h.xbox rfl, row_cell h.xbox rfl⟩
end
/-- What a head's tests say, the first that says no ahead. -/
theorem head_ways (d i1 i2 k n v1 v2 : Bool) : (d && (i1 && (i2 && (k && (n && (v1 && v2)))))) = false → d = false ∨ (d = true ∧ i1 = false) ∨ (d = true ∧ i1 = true ∧ i2 = false) ∨ (d = true ∧ i1 = true ∧ i2 = true ∧ k = false) ∨ (d = true ∧ i1 = true ∧ i2 = true ∧ k = true ∧ n = false) ∨ (d = true ∧ i1 = true ∧ i2 = true ∧ k = true ∧ n = true ∧ v1 = false) ∨ (d = true ∧ i1 = true ∧ i2 = true ∧ k = true ∧ n = true ∧ v1 = true ∧ v2 = false) := by
 revert d i1 i2 k n v1 v2
 decide
set_option maxHeartbeats 16000000 in
set_option maxRecDepth 100000 in
theorem sort_no (nm : ByteArray) (l : List Step) (A : Option Addr) (c : Nat) (x : Inst) (B : Option Addr) (cb : Nat) (w : World) (hnm : nm.size ≤ 140737488351232) (hxk : x.key.size ≤ 140737488351232) (hS : StepsAt w A l) (hb : ∀ s ∈ l, StepB s) (hn : l.length ≤ 9000000000000) (hc : l.length ≤ c) (hT : TabsAt w) (hno : headOk nm l x = false) :
 Calls Tryz.prog 52 #[.agg #[.string nm, .slice A l.length c, .int .i64 x.id, .string x.key, .string x.name, .int .i64 x.version, .int .i64 x.phase, .int .i64 x.cause, .slice B x.steps.length cb, .int .i64 (x.freed 0), .int .i64 (x.freed 1), .int .i64 (x.freed 2), .int .i64 (x.freed 3)]] w fun e w' => e = .returned (.int .i64 0) ∧ Below w.heap.size w w' := by
 have HV := Aside0.mk (Sv.start nm l A c x B cb w)
 have hck := Aside0.mk (fun W (h : Below w.heap.size w W) => check_calls nm l A c W hnm (hS.below h) hb (by omega) hc (tabs_on hT h))
 have his : Aside0 (∀ W, Calls Tryz.prog 32 #[.string x.key] W fun e w' => e = .returned (.bool (Nm.isName x.key)) ∧ Below W.heap.size W w') := ⟨fun W => NameWalk.is_calls _ W (by omega)⟩
 have HW := head_ways _ _ _ _ _ _ _ (show (defOk nm l && (decide (1 ≤ x.id) && (decide (x.id ≤ 60) && (Nm.isName x.key && (x.name.toList == nm.toList && (decide (1 ≤ x.version) && decide (x.version ≤ 16))))))) = false from hno)
 clear hno hnm hxk hS hb hT
 have hi1 := lt_one x.id
 have hi2 := gt_of x.id 60
 have hv1 := lt_one x.version
 have hv2 := gt_of x.version 16
 have hnn : (x.name.toList != nm.toList) = !(x.name.toList == nm.toList) := rfl
 generalize defOk nm l = d at *
 generalize decide (1 ≤ x.id) = i1 at *
 generalize decide (x.id ≤ 60) = i2 at *
 generalize Nm.isName x.key = k at *
 generalize hn4 : (x.name.toList == nm.toList) = n4 at *
 generalize decide (1 ≤ x.version) = v1 at *
 generalize decide (x.version ≤ 16) = v2 at *
 go_enter Tryz.func52, Tryz.ntmps52
 rcases HW with rfl | ⟨rfl, rfl⟩ | ⟨rfl, rfl, rfl⟩ | ⟨rfl, rfl, rfl, rfl⟩ | ⟨rfl, rfl, rfl, rfl, rfl⟩ | ⟨rfl, rfl, rfl, rfl, rfl, rfl⟩ | ⟨rfl, rfl, rfl, rfl, rfl, rfl, rfl⟩
 all_goals
  (try simp only [Bool.not_true, Bool.not_false] at hi1 hi2 hv1 hv2 hnn)
  go_wp2_with (first | (go_at_call 31; refine (hck.out _ HV.out.vw.below).mono ?_; rintro e w1 ⟨⟨xa, xb, rfl, hxb⟩, hb1⟩; have hd1 : (xb != 0) = true := (by rw [bne, hxb]; rfl); have H1 := Aside0.mk (HV.out.on hb1); clear hxb hb1; obtain ⟨⟨av0, av1, av2, av3, av4, av5, av6, av7, av8, av9, av10, av11, av12⟩, ax0, ax1, ax2, ax3, ax4, ax5, ax6, ax7, ax8, ax9, ax10⟩ := H1.out.cells) | (go_at_call 31; refine (hck.out _ HV.out.vw.below).mono ?_; rintro e w1 ⟨⟨xa, xb, rfl, hxb⟩, hb1⟩; have hd1 : (xb != 0) = false := (by rw [bne, hxb]; rfl); have H1 := Aside0.mk (HV.out.on hb1); clear hxb hb1; obtain ⟨⟨av0, av1, av2, av3, av4, av5, av6, av7, av8, av9, av10, av11, av12⟩, ax0, ax1, ax2, ax3, ax4, ax5, ax6, ax7, ax8, ax9, ax10⟩ := H1.out.cells) | (go_at_call 32; refine (his.out _).mono ?_; rintro e w2 ⟨rfl, hb2⟩; have H2 := Aside0.mk (H1.out.on hb2); clear hb2; obtain ⟨⟨bv0, bv1, bv2, bv3, bv4, bv5, bv6, bv7, bv8, bv9, bv10, bv11, bv12⟩, bx0, bx1, bx2, bx3, bx4, bx5, bx6, bx7, bx8, bx9, bx10⟩ := H2.out.cells))
  go_ret
  exact ⟨rfl, by first | exact H2.out.vw.below | exact H1.out.vw.below⟩
theorem head_yes {nm : ByteArray} {l : List Step} {x : Inst} (h : headOk nm l x = true) : defOk nm l = true ∧ decide (x.id < 1) = false ∧ decide (60 < x.id) = false ∧ Nm.isName x.key = true ∧ (x.name.toList == nm.toList) = true ∧ decide (x.version < 1) = false ∧ decide (16 < x.version) = false := by
 unfold headOk at h
 rw [lt_one, lt_one, gt_of, gt_of]
 simp only [Bool.and_eq_true] at h
 obtain ⟨h1, h2, h3, h4, h5, h6, h7⟩ := h
 rw [h1, h2, h3, h4, h5, h6, h7]
 exact ⟨rfl, rfl, rfl, rfl, rfl, rfl, rfl⟩
theorem all_four (f : Nat → Int) : (List.range 4).all (fun p => f p == 0) = (f 0 == 0 && (f 1 == 0 && (f 2 == 0 && f 3 == 0))) := by
 rw [show List.range 4 = [0, 1, 2, 3] from rfl]
 simp
set_option maxHeartbeats 16000000 in
set_option maxRecDepth 100000 in
theorem sort_brief (nm : ByteArray) (l : List Step) (A : Option Addr) (c : Nat) (x : Inst) (B : Option Addr) (cb : Nat) (w : World) (hnm : nm.size ≤ 140737488351232) (hxk : x.key.size ≤ 140737488351232) (hS : StepsAt w A l) (hb : ∀ s ∈ l, StepB s) (hn : l.length ≤ 9000000000000) (hc : l.length ≤ c) (hT : TabsAt w) (hyes : headOk nm l x = true) (h0 : x.steps.length = 0) :
 Calls Tryz.prog 52 #[.agg #[.string nm, .slice A l.length c, .int .i64 x.id, .string x.key, .string x.name, .int .i64 x.version, .int .i64 x.phase, .int .i64 x.cause, .slice B x.steps.length cb, .int .i64 (x.freed 0), .int .i64 (x.freed 1), .int .i64 (x.freed 2), .int .i64 (x.freed 3)]] w fun e w' => e = .returned (.int .i64 (if briefL x = true then 2 else 0)) ∧ Below w.heap.size w w' := by
 have HV := Aside0.mk (Sv.start nm l A c x B cb w)
 have hck := Aside0.mk (fun W (h : Below w.heap.size w W) => check_calls nm l A c W hnm (hS.below h) hb (by omega) hc (tabs_on hT h))
 have his : Aside0 (∀ W, Calls Tryz.prog 32 #[.string x.key] W fun e w' => e = .returned (.bool (Nm.isName x.key)) ∧ Below W.heap.size W w') := ⟨fun W => NameWalk.is_calls _ W (by omega)⟩
 obtain ⟨e1, hi1, hi2, e2, e3, hv1, hv2⟩ := head_yes hyes
 have hnn : (x.name.toList != nm.toList) = false := by rw [bne, e3]; rfl
 rw [e1] at hck
 rw [e2] at his
 have hlen : ((x.steps.length : Int) == 0) = true := by rw [h0]; rfl
 have HB : Aside0 ((if briefL x = true then (2 : Int) else 0) = if ((x.freed 0 == 0 && (x.freed 1 == 0 && (x.freed 2 == 0 && x.freed 3 == 0))) && ((x.phase == 4 && x.cause == 0) || (x.phase == 6 && (decide (1 ≤ x.cause) && decide (x.cause ≤ 4))))) = true then 2 else 0) := ⟨by unfold briefL; rw [all_four]⟩
 have heq := fun (w : World) (x0 x1 x2 x3 : Int) => eqI4 9998 w x0 x1 x2 x3 0 0 0 0
 clear hyes h0 e1 e2 hnm hxk hS hb hT
 generalize (if briefL x = true then (2 : Int) else 0) = rr at *
 generalize hp4 : (x.phase == 4) = p4 at *
 generalize hp6 : (x.phase == 6) = p6 at *
 generalize hc0 : (x.cause == 0) = c0 at *
 generalize hg1 : decide (1 ≤ x.cause) = g1 at *
 generalize hg4 : decide (x.cause ≤ 4) = g4 at *
 generalize hfr : (x.freed 0 == 0 && (x.freed 1 == 0 && (x.freed 2 == 0 && x.freed 3 == 0))) = fr at *
 go_enter Tryz.func52, Tryz.ntmps52
 rcases (by cases p4 <;> cases c0 <;> simp : p4 = false ∨ (p4 = true ∧ c0 = false) ∨ (p4 = true ∧ c0 = true)) with rfl | ⟨rfl, rfl⟩ | ⟨rfl, rfl⟩
 all_goals
  rcases (by cases p6 <;> cases g1 <;> cases g4 <;> simp : p6 = false ∨ (p6 = true ∧ g1 = false) ∨ (p6 = true ∧ g1 = true ∧ g4 = false) ∨ (p6 = true ∧ g1 = true ∧ g4 = true)) with rfl | ⟨rfl, rfl⟩ | ⟨rfl, rfl, rfl⟩ | ⟨rfl, rfl, rfl⟩
 all_goals cases fr
 all_goals
  go_wp2_with (first | (go_at_call 31; refine (hck.out _ HV.out.vw.below).mono ?_; rintro e w1 ⟨⟨xa, xb, rfl, hxb⟩, hb1⟩; have hd1 : (xb != 0) = false := (by rw [bne, hxb]; rfl); have H1 := Aside0.mk (HV.out.on hb1); clear hxb hb1; obtain ⟨⟨av0, av1, av2, av3, av4, av5, av6, av7, av8, av9, av10, av11, av12⟩, ax0, ax1, ax2, ax3, ax4, ax5, ax6, ax7, ax8, ax9, ax10⟩ := H1.out.cells) | (go_at_call 32; refine (his.out _).mono ?_; rintro e w2 ⟨rfl, hb2⟩; have H2 := Aside0.mk (H1.out.on hb2); clear hb2; obtain ⟨⟨bv0, bv1, bv2, bv3, bv4, bv5, bv6, bv7, bv8, bv9, bv10, bv11, bv12⟩, bx0, bx1, bx2, bx3, bx4, bx5, bx6, bx7, bx8, bx9, bx10⟩ := H2.out.cells) | (go_at_call 112; refine (hst.out _ H2.out.vw).mono ?_; rintro e w3 ⟨rfl, hb3⟩; have H3 := Aside0.mk (H2.out.on hb3); clear hb3; obtain ⟨⟨cv0, cv1, cv2, cv3, cv4, cv5, cv6, cv7, cv8, cv9, cv10, cv11, cv12⟩, cx0, cx1, cx2, cx3, cx4, cx5, cx6, cx7, cx8, cx9, cx10⟩ := H3.out.cells) | (go_at_call 113; refine (hph.out _ H3.out.vw).mono ?_; rintro e w4 ⟨rfl, hb4⟩; have H4 := Aside0.mk (H3.out.on hb4); clear hb4; obtain ⟨⟨dv0, dv1, dv2, dv3, dv4, dv5, dv6, dv7, dv8, dv9, dv10, dv11, dv12⟩, dx0, dx1, dx2, dx3, dx4, dx5, dx6, dx7, dx8, dx9, dx10⟩ := H4.out.cells) | (go_at_call 114; refine (hfr.out _ H4.out.vw).mono ?_; rintro e w5 ⟨rfl, hb5⟩; have H5 := Aside0.mk (H4.out.on hb5); clear hb5))
  go_ret
  exact ⟨by rw [HB.out]; rfl, H2.out.vw.below⟩
set_option maxHeartbeats 16000000 in
set_option maxRecDepth 100000 in
theorem sort_some (nm : ByteArray) (l : List Step) (A : Option Addr) (c : Nat) (x : Inst) (B : Option Addr) (cb : Nat) (w : World) (hnm : nm.size ≤ 140737488351232) (hxk : x.key.size ≤ 140737488351232) (hS : StepsAt w A l) (hb : ∀ s ∈ l, StepB s) (hn : l.length ≤ 9000000000000) (hc : l.length ≤ c) (hT : TabsAt w) (hB : Kd.C (Kd.int .i64) w B x.steps.length x.steps) (hxs : x.steps.length ≤ 17592186044416) (hyes : headOk nm l x = true) (h0 : x.steps.length ≠ 0) :
 Calls Tryz.prog 52 #[.agg #[.string nm, .slice A l.length c, .int .i64 x.id, .string x.key, .string x.name, .int .i64 x.version, .int .i64 x.phase, .int .i64 x.cause, .slice B x.steps.length cb, .int .i64 (x.freed 0), .int .i64 (x.freed 1), .int .i64 (x.freed 2), .int .i64 (x.freed 3)]] w fun e w' => e = .returned (.int .i64 (if (x.steps.length != l.length) = true then 0 else if (!stepsL l x || !phaseL l x) = true then 0 else if mayL l x = true then 1 else 0)) ∧ Below w.heap.size w w' := by
 have HV := Aside0.mk (Sv.start nm l A c x B cb w)
 have hck := Aside0.mk (fun W (h : Below w.heap.size w W) => check_calls nm l A c W hnm (hS.below h) hb (by omega) hc (tabs_on hT h))
 have his : Aside0 (∀ W, Calls Tryz.prog 32 #[.string x.key] W fun e w' => e = .returned (.bool (Nm.isName x.key)) ∧ Below W.heap.size W w') := ⟨fun W => NameWalk.is_calls _ W (by omega)⟩
 obtain ⟨hok, hi1, hi2, e2, e3, hv1, hv2⟩ := head_yes hyes
 have hnn : (x.name.toList != nm.toList) = false := by rw [bne, e3]; rfl
 have hck0 := hck
 rw [hok] at hck
 rw [e2] at his
 have hlen : ((x.steps.length : Int) == 0) = false := beq_eq_false_iff_ne.2 (by omega)
 by_cases hx : x.steps.length = l.length
 · have hst := Aside0.mk (fun W (h : Vw w W nm l A c x B cb) => steps_calls nm l A c x B cb W hok hnm (hS.below h.below) hb hc (tabs_on hT h.below) hx (Kd.C_below hB h.below))
   have hph := Aside0.mk (fun W (h : Vw w W nm l A c x B cb) => phase_calls nm l A c x B cb W hok hnm (hS.below h.below) hb hc (tabs_on hT h.below) hx (Kd.C_below hB h.below))
   have hfr := Aside0.mk (fun W (h : Vw w W nm l A c x B cb) => freed_calls nm l A c x B cb W hok hnm (hS.below h.below) hb hc (tabs_on hT h.below))
   have hdl : ((x.steps.length : Int) != (l.length : Int)) = false := bne_eq_false_iff_eq.2 (by omega)
   have hrr : (x.steps.length != l.length) = false := bne_eq_false_iff_eq.2 hx
   rw [hrr, if_neg (by decide)]
   clear hyes h0 hok e2 hnm hxk hS hb hT hB hx hck0 hrr
   generalize stepsL l x = st at *
   generalize phaseL l x = ph at *
   generalize mayL l x = mr at *
   generalize doneL l x = dr at *
   go_enter Tryz.func52, Tryz.ntmps52
   rcases (by cases st <;> cases ph <;> cases mr <;> simp : st = false ∨ (st = true ∧ ph = false) ∨ (st = true ∧ ph = true ∧ mr = false) ∨ (st = true ∧ ph = true ∧ mr = true)) with rfl | ⟨rfl, rfl⟩ | ⟨rfl, rfl, rfl⟩ | ⟨rfl, rfl, rfl⟩
   all_goals
    go_wp2_with (first | (go_at_call 31; refine (hck.out _ HV.out.vw.below).mono ?_; rintro e w1 ⟨⟨xa, xb, rfl, hxb⟩, hb1⟩; have hd1 : (xb != 0) = false := (by rw [bne, hxb]; rfl); have H1 := Aside0.mk (HV.out.on hb1); clear hxb hb1; obtain ⟨⟨av0, av1, av2, av3, av4, av5, av6, av7, av8, av9, av10, av11, av12⟩, ax0, ax1, ax2, ax3, ax4, ax5, ax6, ax7, ax8, ax9, ax10⟩ := H1.out.cells) | (go_at_call 32; refine (his.out _).mono ?_; rintro e w2 ⟨rfl, hb2⟩; have H2 := Aside0.mk (H1.out.on hb2); clear hb2; obtain ⟨⟨bv0, bv1, bv2, bv3, bv4, bv5, bv6, bv7, bv8, bv9, bv10, bv11, bv12⟩, bx0, bx1, bx2, bx3, bx4, bx5, bx6, bx7, bx8, bx9, bx10⟩ := H2.out.cells) | (go_at_call 112; refine (hst.out _ H2.out.vw).mono ?_; rintro e w3 ⟨rfl, hb3⟩; have H3 := Aside0.mk (H2.out.on hb3); clear hb3; obtain ⟨⟨cv0, cv1, cv2, cv3, cv4, cv5, cv6, cv7, cv8, cv9, cv10, cv11, cv12⟩, cx0, cx1, cx2, cx3, cx4, cx5, cx6, cx7, cx8, cx9, cx10⟩ := H3.out.cells) | (go_at_call 113; refine (hph.out _ H3.out.vw).mono ?_; rintro e w4 ⟨rfl, hb4⟩; have H4 := Aside0.mk (H3.out.on hb4); clear hb4; obtain ⟨⟨dv0, dv1, dv2, dv3, dv4, dv5, dv6, dv7, dv8, dv9, dv10, dv11, dv12⟩, dx0, dx1, dx2, dx3, dx4, dx5, dx6, dx7, dx8, dx9, dx10⟩ := H4.out.cells) | (go_at_call 114; refine (hfr.out _ H4.out.vw).mono ?_; rintro e w5 ⟨rfl, hb5⟩; have H5 := Aside0.mk (H4.out.on hb5); clear hb5))
    go_ret
    exact ⟨rfl, by first | exact H5.out.vw.below | exact H4.out.vw.below | exact H3.out.vw.below⟩
 · have hdl : ((x.steps.length : Int) != (l.length : Int)) = true := bne_iff_ne.2 (by omega)
   have hrr : (x.steps.length != l.length) = true := bne_iff_ne.2 hx
   rw [hrr, if_pos rfl]
   clear hyes h0 hok e2 hnm hxk hS hb hT hB hx hck0 hrr
   go_enter Tryz.func52, Tryz.ntmps52
   go_wp2_with (first | (go_at_call 31; refine (hck.out _ HV.out.vw.below).mono ?_; rintro e w1 ⟨⟨xa, xb, rfl, hxb⟩, hb1⟩; have hd1 : (xb != 0) = false := (by rw [bne, hxb]; rfl); have H1 := Aside0.mk (HV.out.on hb1); clear hxb hb1; obtain ⟨⟨av0, av1, av2, av3, av4, av5, av6, av7, av8, av9, av10, av11, av12⟩, ax0, ax1, ax2, ax3, ax4, ax5, ax6, ax7, ax8, ax9, ax10⟩ := H1.out.cells) | (go_at_call 32; refine (his.out _).mono ?_; rintro e w2 ⟨rfl, hb2⟩; have H2 := Aside0.mk (H1.out.on hb2); clear hb2; obtain ⟨⟨bv0, bv1, bv2, bv3, bv4, bv5, bv6, bv7, bv8, bv9, bv10, bv11, bv12⟩, bx0, bx1, bx2, bx3, bx4, bx5, bx6, bx7, bx8, bx9, bx10⟩ := H2.out.cells) | (go_at_call 112; refine (hst.out _ H2.out.vw).mono ?_; rintro e w3 ⟨rfl, hb3⟩; have H3 := Aside0.mk (H2.out.on hb3); clear hb3; obtain ⟨⟨cv0, cv1, cv2, cv3, cv4, cv5, cv6, cv7, cv8, cv9, cv10, cv11, cv12⟩, cx0, cx1, cx2, cx3, cx4, cx5, cx6, cx7, cx8, cx9, cx10⟩ := H3.out.cells) | (go_at_call 113; refine (hph.out _ H3.out.vw).mono ?_; rintro e w4 ⟨rfl, hb4⟩; have H4 := Aside0.mk (H3.out.on hb4); clear hb4; obtain ⟨⟨dv0, dv1, dv2, dv3, dv4, dv5, dv6, dv7, dv8, dv9, dv10, dv11, dv12⟩, dx0, dx1, dx2, dx3, dx4, dx5, dx6, dx7, dx8, dx9, dx10⟩ := H4.out.cells) | (go_at_call 114; refine (hfr.out _ H4.out.vw).mono ?_; rintro e w5 ⟨rfl, hb5⟩; have H5 := Aside0.mk (H4.out.on hb5); clear hb5))
   go_ret
   exact ⟨rfl, H2.out.vw.below⟩
theorem sort_calls (nm : ByteArray) (l : List Step) (A : Option Addr) (c : Nat) (x : Inst) (B : Option Addr) (cb : Nat) (w : World) (hnm : nm.size ≤ 140737488351232) (hxk : x.key.size ≤ 140737488351232) (hS : StepsAt w A l) (hb : ∀ s ∈ l, StepB s) (hn : l.length ≤ 9000000000000) (hc : l.length ≤ c) (hT : TabsAt w) (hB : Kd.C (Kd.int .i64) w B x.steps.length x.steps) (hxs : x.steps.length ≤ 17592186044416) :
 Calls Tryz.prog 52 #[.agg #[.string nm, .slice A l.length c, .int .i64 x.id, .string x.key, .string x.name, .int .i64 x.version, .int .i64 x.phase, .int .i64 x.cause, .slice B x.steps.length cb, .int .i64 (x.freed 0), .int .i64 (x.freed 1), .int .i64 (x.freed 2), .int .i64 (x.freed 3)]] w fun e w' => e = .returned (.int .i64 (sortL nm l x)) ∧ Below w.heap.size w w' := by
 unfold sortL
 cases hh : headOk nm l x
 · exact sort_no nm l A c x B cb w hnm hxk hS hb hn hc hT hh
 · by_cases h0 : x.steps.length = 0
   · have := sort_brief nm l A c x B cb w hnm hxk hS hb hn hc hT hh h0
     rw [show (x.steps.length == 0) = true by rw [h0]; rfl]
     exact this
   · have := sort_some nm l A c x B cb w hnm hxk hS hb hn hc hT hB hxs hh h0
     rw [show (x.steps.length == 0) = false from beq_eq_false_iff_ne.2 h0]
     exact this
end Go.Proofs.YtgjddnaidjbhlaaGreatDoor.Ph

/- odysseyref19, what it says, as plain data; it is what the program says (plain). -/
namespace Go.Proofs.YtgjddnaidjbhlaaGreatDoor.Ph
open Go.RowKit Go.Proofs.YtgjddnaidjbhlaaGreatDoor.Pl

def hasR (l : List Step) (kind : Int) : Bool := (List.range l.length).any fun i => kindOf l i == kind
/-- All steps are retriable, just where there is no other. -/
theorem cnt_full {f : Nat → Bool} : ∀ n, cnt f n = n ↔ ∀ i, i < n → f i = true
 | 0 => ⟨fun _ i h => absurd h (Nat.not_lt_zero _), fun _ => rfl⟩
 | n + 1 => by
  have e : cnt f (n + 1) = cnt f n + if f n = true then 1 else 0 := rfl
  have hle := cnt_le f n
  rw [e]
  constructor
  · intro h i hi
    cases hf : f n
    · rw [hf] at h
      simp at h
      omega
    · rw [hf] at h
      simp at h
      rcases Nat.lt_succ_iff_lt_or_eq.1 hi with e2 | e2
      · exact (cnt_full n).1 h i e2
      · exact e2 ▸ hf
  · intro h
    rw [(cnt_full n).2 fun i hi => h i (by omega), h n (Nat.lt_succ_self _)]
    simp
theorem all_ever {l : List Step} (hk : ∀ i, i < l.length → 1 ≤ kindOf l i ∧ kindOf l i ≤ 3) : (((kindsL l 3 : Nat) : Int) == (l.length : Int)) = (!hasR l 1 && !hasR l 2) := by
 have hh : ∀ i, hasK l 3 i = (kindOf l i == 3) := fun _ => rfl
 rw [Bool.eq_iff_iff, beq_iff_eq]
 unfold kindsL
 constructor
 · intro h
   have h2 := (cnt_full l.length).1 (by omega : cnt (hasK l 3) l.length = l.length)
   unfold hasR
   rw [Bool.and_eq_true, Bool.not_eq_true', Bool.not_eq_true', List.any_eq_false, List.any_eq_false]
   constructor
   all_goals
    intro i hi
    have := h2 i (List.mem_range.1 hi)
    rw [hh, beq_iff_eq] at this
    rw [this]
    decide
 · intro h
   unfold hasR at h
   rw [Bool.and_eq_true, Bool.not_eq_true', Bool.not_eq_true', List.any_eq_false, List.any_eq_false] at h
   have : cnt (hasK l 3) l.length = l.length := (cnt_full l.length).2 fun i hi => by
    have h1 := h.1 i (List.mem_range.2 hi)
    have h2 := h.2 i (List.mem_range.2 hi)
    have := hk i hi
    simp only [beq_iff_eq] at h1 h2
    rw [hh, beq_iff_eq]
    omega
   omega

/-! ### the steps -/
/-! ### the phase -/
/-! ### Freed -/
def mayR (l : List Step) (x : Inst) (p : Nat) : Bool := !(decide (x.freed p < 0) || (decide (x.freed p > 1) || ((!named l p && !(x.freed p == 0)) || ((x.freed p == 1) && !overL x))))
end Go.Proofs.YtgjddnaidjbhlaaGreatDoor.Ph

/- odysseyref19's Valid, as plain data, is the program's; a definition that may be has one pivot at most (plain). -/
namespace Go.Proofs.YtgjddnaidjbhlaaGreatDoor.Ph
open Go.RowKit Go.Proofs.YtgjddnaidjbhlaaGreatDoor.Pl

theorem kinds_of {nm : ByteArray} {l : List Step} (h : defOk nm l = true) : ∀ i, i < l.length → 1 ≤ kindOf l i ∧ kindOf l i ≤ 3 := fun i hi => by
 have := (defOk_len h).2.2 i hi
 unfold aloneOk at this
 simp only [Bool.and_eq_true, decide_eq_true_eq] at this
 exact this.2.2.1
theorem headOk_def {nm : ByteArray} {l : List Step} {x : Inst} (h : headOk nm l x = true) : defOk nm l = true := by
 unfold headOk at h
 exact (Bool.and_eq_true_iff.1 h).1
/-- Closed, of one that may be: a brief. -/
def closedL (x : Inst) : Bool := overL x && decide (x.steps.length = 0)
/-- What sort says of one that is open. -/
theorem sort_open {nm : ByteArray} {l : List Step} {x : Inst} (h : sortL nm l x = 1) : headOk nm l x = true ∧ x.steps.length = l.length ∧ stepsL l x = true ∧ phaseL l x = true ∧ mayL l x = true := by
 unfold sortL at h
 cases hh : headOk nm l x
 · rw [hh] at h
   cases h
 · rw [hh] at h
   have hl := (defOk_len (headOk_def hh)).1
   by_cases h0 : x.steps.length = 0
   · rw [h0] at h
     revert h
     cases briefL x <;> intro h <;> cases h
   · have e0 : (x.steps.length == 0) = false := beq_eq_false_iff_ne.2 h0
     rw [e0] at h
     by_cases h1 : x.steps.length = l.length
     · have e1 : (x.steps.length != l.length) = false := by rw [h1]; simp
       rw [e1] at h
       revert h
       cases stepsL l x <;> cases mayL l x <;> cases phaseL l x <;> intro h <;> first | exact ⟨rfl, h1, rfl, rfl, rfl⟩ | cases h
     · have e1 : (x.steps.length != l.length) = true := bne_iff_ne.2 h1
       rw [e1] at h
       cases h
end Go.Proofs.YtgjddnaidjbhlaaGreatDoor.Ph

/- odysseyref19: among, all, some, has, pivot (P19): walked by hand. -/
namespace Go.Proofs.YtgjddnaidjbhlaaGreatDoor.Ph
open Go.RowKit Go.IntWalk Go.Proofs.YtgjddnaidjbhlaaGreatDoorW.PrintWords Go.Proofs.YtgjddnaidjbhlaaGreatDoorW.PrintLast Go.Proofs.YtgjddnaidjbhlaaGreatDoorW.PrintMore Go.Proofs.YtgjddnaidjbhlaaGreatDoor.PlName Go.Proofs.YtgjddnaidjbhlaaGreatDoor.Pl

/-- A definition and an instance lie in boxes. -/
structure Dx (w W : World) (nm : ByteArray) (l : List Step) (A : Option Addr) (c : Nat) (x : Inst) (B : Option Addr) (cb : Nat) : Prop where
 below : Below w.heap.size w W
 dbox : W.heap[w.heap.size]? = some (.cells #[.string nm, .slice A l.length c] 24 (0, 0))
 xbox : W.heap[w.heap.size + 1]? = some (.cells #[.int .i64 x.id, .string x.key, .string x.name, .int .i64 x.version, .int .i64 x.phase, .int .i64 x.cause, .slice B x.steps.length cb, .int .i64 (x.freed 0), .int .i64 (x.freed 1), .int .i64 (x.freed 2), .int .i64 (x.freed 3)] 28 (0, 0))
theorem alloc_2 (w : World) (a b : Obj) : ((w.alloc a).alloc b).heap[w.heap.size + 1]? = some b := by
 have h1 := alloc1 (w.alloc a) b
 have h2 : (w.alloc a).heap.size = w.heap.size + 1 := by
  show (w.heap.push _).size = _
  simp
 rw [h2] at h1
 exact h1
section
variable {w W W2 : World} {nm : ByteArray} {l : List Step} {A : Option Addr} {c : Nat} {x : Inst} {B : Option Addr} {cb : Nat}
theorem Dx.on (h : Dx w W nm l A c x B cb) (hb : Below W.heap.size W W2) : Dx w W2 nm l A c x B cb := ⟨on_ h.below hb, row_on hb h.dbox, row_on hb h.xbox⟩
theorem Dx.start (nm : ByteArray) (l : List Step) (A : Option Addr) (c : Nat) (x : Inst) (B : Option Addr) (cb : Nat) (w : World) : Dx w ((w.alloc (.cells #[.string nm, .slice A l.length c] 24)).alloc (.cells #[.int .i64 x.id, .string x.key, .string x.name, .int .i64 x.version, .int .i64 x.phase, .int .i64 x.cause, .slice B x.steps.length cb, .int .i64 (x.freed 0), .int .i64 (x.freed 1), .int .i64 (x.freed 2), .int .i64 (x.freed 3)] 28)) nm l A c x B cb := ⟨on_ (below_one _ _) (below_one _ _), row_on (below_one _ _) (alloc1 w _), alloc_2 w _ _⟩
theorem Dx.d (h : Dx w W nm l A c x B cb) : W.cell? ⟨w.heap.size, 0, none⟩ = some (.string nm) ∧ W.cell? ⟨w.heap.size, 1, none⟩ = some (.slice A l.length c) := ⟨row_cell h.dbox rfl, row_cell h.dbox rfl⟩
theorem Dx.st (h : Dx w W nm l A c x B cb) : W.cell? ⟨w.heap.size + 1, 6, none⟩ = some (.slice B x.steps.length cb) := row_cell h.xbox rfl
theorem Dx.xc (h : Dx w W nm l A c x B cb) : W.cell? ⟨w.heap.size + 1, 0, none⟩ = some (.int .i64 x.id) ∧ W.cell? ⟨w.heap.size + 1, 1, none⟩ = some (.string x.key) ∧ W.cell? ⟨w.heap.size + 1, 2, none⟩ = some (.string x.name) ∧ W.cell? ⟨w.heap.size + 1, 3, none⟩ = some (.int .i64 x.version) ∧ W.cell? ⟨w.heap.size + 1, 4, none⟩ = some (.int .i64 x.phase) ∧ W.cell? ⟨w.heap.size + 1, 5, none⟩ = some (.int .i64 x.cause) ∧ W.cell? ⟨w.heap.size + 1, 6, none⟩ = some (.slice B x.steps.length cb) ∧ W.cell? ⟨w.heap.size + 1, 7, none⟩ = some (.int .i64 (x.freed 0)) ∧ W.cell? ⟨w.heap.size + 1, 8, none⟩ = some (.int .i64 (x.freed 1)) ∧ W.cell? ⟨w.heap.size + 1, 9, none⟩ = some (.int .i64 (x.freed 2)) ∧ W.cell? ⟨w.heap.size + 1, 10, none⟩ = some (.int .i64 (x.freed 3)) := ⟨row_cell h.xbox rfl, row_cell h.xbox rfl, row_cell h.xbox rfl, row_cell h.xbox rfl, row_cell h.xbox rfl, row_cell h.xbox rfl, row_cell h.xbox rfl, row_cell h.xbox rfl, row_cell h.xbox rfl, row_cell h.xbox rfl, row_cell h.xbox rfl⟩
end
end Go.Proofs.YtgjddnaidjbhlaaGreatDoor.Ph

/- phase: free of a view in a box (P19): walked by hand. -/
namespace Go.Proofs.YtgjddnaidjbhlaaGreatDoor.Ph
open Go.RowKit Go.IntWalk Go.Proofs.YtgjddnaidjbhlaaGreatDoorW.PrintWords Go.Proofs.YtgjddnaidjbhlaaGreatDoorW.PrintLast Go.Proofs.YtgjddnaidjbhlaaGreatDoorW.PrintMore Go.Proofs.YtgjddnaidjbhlaaGreatDoor.PlName Go.Proofs.YtgjddnaidjbhlaaGreatDoor.Pl

theorem has_calls' {w0 W : World} {v : Value} {L : List Nat} (h : Pl.Own w0 W v L) (h4 : L.length ≤ 1000) (k : Int) : Calls Tryz.prog 118 #[v, .int .i64 k] W fun e w' => e = .returned (.bool (hasI L k)) ∧ w' = W := by
 obtain ⟨A', c', rfl, _, hr⟩ := own_reads h
 have h1 := contains_calls A' c' (intsOf L) k W hr (by rw [intsOf_len]; omega)
 rw [intsOf_len] at h1
 exact h1
set_option maxHeartbeats 16000000 in
set_option maxRecDepth 100000 in
theorem free0_calls {nm : ByteArray} {l : List Step} {A : Option Addr} {c : Nat} {x : Inst} {B : Option Addr} {cb : Nat} {w W : World} {p : Nat} (h : Bx w W p nm l A c x B cb) (hok : defOk nm l = true) (hnm : nm.size ≤ 140737488351232) (hS : StepsAt w A l) (hb : ∀ s ∈ l, StepB s) (hc : l.length ≤ c) (hT : TabsAt w) :
 Calls Tryz.prog 130 #[.pointer (some ⟨p, 0, none⟩), .int .i64 0] W fun e W' => OnRes w W' p nm l A c (freeX nm l x 0) e := by
 have hl8 := (defOk_len hok).2.1
 have hov := Aside0.mk (fun W => over_calls nm l A c x B cb W)
 have hnd := Aside0.mk (fun W (h : Below w.heap.size w W) => named_calls nm l A c W hnm (hS.below h) hb (by omega) hc (tabs_on hT h))
 have HLN := Aside0.mk (namedL_len nm l)
 have hcon := Aside0.mk (fun W W0 v (h : Pl.Own W0 W v (namedL nm l)) => (has_calls' h (by have := HLN.out; omega) 0))
 have hfr := Aside0.mk (fun W (h : Bx w W p nm l A c (setFr x 0) B cb) => (by exact freed_calls nm l A c (setFr x 0) B cb W hok hnm (hS.below h.below) hb hc (tabs_on hT h.below) : Calls Tryz.prog 114 #[.agg #[.string nm, .slice A l.length c, .int .i64 x.id, .string x.key, .string x.name, .int .i64 x.version, .int .i64 x.phase, .int .i64 x.cause, .slice B x.steps.length cb, .int .i64 1, .int .i64 (x.freed 1), .int .i64 (x.freed 2), .int .i64 (x.freed 3)]] W fun e w' => e = .returned (.tuple #[.bool (mayL l (setFr x 0)), .bool (doneL l (setFr x 0))]) ∧ Below W.heap.size W w'))
 have HF : Aside0 (freeX nm l x 0 = if (!overL x || (x.freed 0 != 0 || !hasI (namedL nm l) 0)) = true then none else some (if doneL l (setFr x 0) = true then closeX (setFr x 0) else setFr x 0)) := ⟨rfl⟩
 have HB := Aside0.mk h
 obtain ⟨hq0, hq1, hq2, hq3, hq4, hq5, hq6, hq7, hq8, hq9, hq10, hq11, hq12⟩ := h.cells
 have hf9 := h.free 9
 clear h hok hnm hS hb hc hT hl8
 generalize freeX nm l x 0 = rr at *
 generalize mayL l (setFr x 0) = mr at *
 generalize doneL l (setFr x 0) = dr at *
 generalize namedL nm l = NL at *
 generalize hasI NL 0 = hs at *
 generalize overL x = ov at *
 generalize hz : (x.freed 0 != 0) = z at *
 go_enter Tryz.func130, Tryz.ntmps130
 rcases (by cases ov <;> cases z <;> cases hs <;> cases dr <;> simp : ov = false ∨ (ov = true ∧ z = true) ∨ (ov = true ∧ z = false ∧ hs = false) ∨ (ov = true ∧ z = false ∧ hs = true ∧ dr = false) ∨ (ov = true ∧ z = false ∧ hs = true ∧ dr = true)) with rfl | ⟨rfl, rfl⟩ | ⟨rfl, rfl, rfl⟩ | ⟨rfl, rfl, rfl, rfl⟩ | ⟨rfl, rfl, rfl, rfl⟩
 all_goals
  go_wp2_with (first | (go_at_call 58; refine (hov.out _).mono ?_; rintro e w1 ⟨rfl, hb1⟩; have H1 := Aside0.mk (HB.out.on hb1); clear hb1; obtain ⟨hr0, hr1, hr2, hr3, hr4, hr5, hr6, hr7, hr8, hr9, hr10, hr11, hr12⟩ := H1.out.cells) | (go_at_call 66; refine (hnd.out _ H1.out.below).mono ?_; rintro e w3 ⟨⟨v3, rfl, ho3⟩, hb3⟩; have H3 := Aside0.mk (And.intro (H1.out.on hb3) ho3); clear ho3 hb3; obtain ⟨hs0, hs1, hs2, hs3, hs4, hs5, hs6, hs7, hs8, hs9, hs10, hs11, hs12⟩ := H3.out.1.cells; have hg9 := H3.out.1.free 9) | (go_at_call 118; refine (hcon.out _ _ _ H3.out.2).mono ?_; rintro e w4 ⟨rfl, rfl⟩) | (go_at_call 114; refine (hfr.out _ H3.out.1.setFr0).mono ?_; rintro e w5 ⟨rfl, hb5⟩; have H5 := Aside0.mk (H3.out.1.setFr0.on hb5); clear hb5) | (go_at_call 169; refine (close_calls H5.out).mono ?_; rintro e w6 ⟨rfl, hb6⟩; have H6 := Aside0.mk hb6; clear hb6))
  go_ret
  first
   | exact OnRes.yes (by rw [HF.out]; rfl) H6.out
   | exact OnRes.yes (by rw [HF.out]; rfl) H5.out
   | exact OnRes.no (by rw [HF.out]; rfl) H3.out.1.below
   | exact OnRes.no (by rw [HF.out]; rfl) H1.out.below
set_option maxHeartbeats 16000000 in
set_option maxRecDepth 100000 in
theorem free1_calls {nm : ByteArray} {l : List Step} {A : Option Addr} {c : Nat} {x : Inst} {B : Option Addr} {cb : Nat} {w W : World} {p : Nat} (h : Bx w W p nm l A c x B cb) (hok : defOk nm l = true) (hnm : nm.size ≤ 140737488351232) (hS : StepsAt w A l) (hb : ∀ s ∈ l, StepB s) (hc : l.length ≤ c) (hT : TabsAt w) :
 Calls Tryz.prog 130 #[.pointer (some ⟨p, 0, none⟩), .int .i64 1] W fun e W' => OnRes w W' p nm l A c (freeX nm l x 1) e := by
 have hl8 := (defOk_len hok).2.1
 have hov := Aside0.mk (fun W => over_calls nm l A c x B cb W)
 have hnd := Aside0.mk (fun W (h : Below w.heap.size w W) => named_calls nm l A c W hnm (hS.below h) hb (by omega) hc (tabs_on hT h))
 have HLN := Aside0.mk (namedL_len nm l)
 have hcon := Aside0.mk (fun W W0 v (h : Pl.Own W0 W v (namedL nm l)) => (has_calls' h (by have := HLN.out; omega) 1))
 have hfr := Aside0.mk (fun W (h : Bx w W p nm l A c (setFr x 1) B cb) => (by exact freed_calls nm l A c (setFr x 1) B cb W hok hnm (hS.below h.below) hb hc (tabs_on hT h.below) : Calls Tryz.prog 114 #[.agg #[.string nm, .slice A l.length c, .int .i64 x.id, .string x.key, .string x.name, .int .i64 x.version, .int .i64 x.phase, .int .i64 x.cause, .slice B x.steps.length cb, .int .i64 (x.freed 0), .int .i64 1, .int .i64 (x.freed 2), .int .i64 (x.freed 3)]] W fun e w' => e = .returned (.tuple #[.bool (mayL l (setFr x 1)), .bool (doneL l (setFr x 1))]) ∧ Below W.heap.size W w'))
 have HF : Aside0 (freeX nm l x 1 = if (!overL x || (x.freed 1 != 0 || !hasI (namedL nm l) 1)) = true then none else some (if doneL l (setFr x 1) = true then closeX (setFr x 1) else setFr x 1)) := ⟨rfl⟩
 have HB := Aside0.mk h
 obtain ⟨hq0, hq1, hq2, hq3, hq4, hq5, hq6, hq7, hq8, hq9, hq10, hq11, hq12⟩ := h.cells
 have hf9 := h.free 10
 clear h hok hnm hS hb hc hT hl8
 generalize freeX nm l x 1 = rr at *
 generalize mayL l (setFr x 1) = mr at *
 generalize doneL l (setFr x 1) = dr at *
 generalize namedL nm l = NL at *
 generalize hasI NL 1 = hs at *
 generalize overL x = ov at *
 generalize hz : (x.freed 1 != 0) = z at *
 go_enter Tryz.func130, Tryz.ntmps130
 rcases (by cases ov <;> cases z <;> cases hs <;> cases dr <;> simp : ov = false ∨ (ov = true ∧ z = true) ∨ (ov = true ∧ z = false ∧ hs = false) ∨ (ov = true ∧ z = false ∧ hs = true ∧ dr = false) ∨ (ov = true ∧ z = false ∧ hs = true ∧ dr = true)) with rfl | ⟨rfl, rfl⟩ | ⟨rfl, rfl, rfl⟩ | ⟨rfl, rfl, rfl, rfl⟩ | ⟨rfl, rfl, rfl, rfl⟩
 all_goals
  go_wp2_with (first | (go_at_call 58; refine (hov.out _).mono ?_; rintro e w1 ⟨rfl, hb1⟩; have H1 := Aside0.mk (HB.out.on hb1); clear hb1; obtain ⟨hr0, hr1, hr2, hr3, hr4, hr5, hr6, hr7, hr8, hr9, hr10, hr11, hr12⟩ := H1.out.cells) | (go_at_call 66; refine (hnd.out _ H1.out.below).mono ?_; rintro e w3 ⟨⟨v3, rfl, ho3⟩, hb3⟩; have H3 := Aside0.mk (And.intro (H1.out.on hb3) ho3); clear ho3 hb3; obtain ⟨hs0, hs1, hs2, hs3, hs4, hs5, hs6, hs7, hs8, hs9, hs10, hs11, hs12⟩ := H3.out.1.cells; have hg9 := H3.out.1.free 10) | (go_at_call 118; refine (hcon.out _ _ _ H3.out.2).mono ?_; rintro e w4 ⟨rfl, rfl⟩) | (go_at_call 114; refine (hfr.out _ H3.out.1.setFr1).mono ?_; rintro e w5 ⟨rfl, hb5⟩; have H5 := Aside0.mk (H3.out.1.setFr1.on hb5); clear hb5) | (go_at_call 169; refine (close_calls H5.out).mono ?_; rintro e w6 ⟨rfl, hb6⟩; have H6 := Aside0.mk hb6; clear hb6))
  go_ret
  first
   | exact OnRes.yes (by rw [HF.out]; rfl) H6.out
   | exact OnRes.yes (by rw [HF.out]; rfl) H5.out
   | exact OnRes.no (by rw [HF.out]; rfl) H3.out.1.below
   | exact OnRes.no (by rw [HF.out]; rfl) H1.out.below
set_option maxHeartbeats 16000000 in
set_option maxRecDepth 100000 in
theorem free2_calls {nm : ByteArray} {l : List Step} {A : Option Addr} {c : Nat} {x : Inst} {B : Option Addr} {cb : Nat} {w W : World} {p : Nat} (h : Bx w W p nm l A c x B cb) (hok : defOk nm l = true) (hnm : nm.size ≤ 140737488351232) (hS : StepsAt w A l) (hb : ∀ s ∈ l, StepB s) (hc : l.length ≤ c) (hT : TabsAt w) :
 Calls Tryz.prog 130 #[.pointer (some ⟨p, 0, none⟩), .int .i64 2] W fun e W' => OnRes w W' p nm l A c (freeX nm l x 2) e := by
 have hl8 := (defOk_len hok).2.1
 have hov := Aside0.mk (fun W => over_calls nm l A c x B cb W)
 have hnd := Aside0.mk (fun W (h : Below w.heap.size w W) => named_calls nm l A c W hnm (hS.below h) hb (by omega) hc (tabs_on hT h))
 have HLN := Aside0.mk (namedL_len nm l)
 have hcon := Aside0.mk (fun W W0 v (h : Pl.Own W0 W v (namedL nm l)) => (has_calls' h (by have := HLN.out; omega) 2))
 have hfr := Aside0.mk (fun W (h : Bx w W p nm l A c (setFr x 2) B cb) => (by exact freed_calls nm l A c (setFr x 2) B cb W hok hnm (hS.below h.below) hb hc (tabs_on hT h.below) : Calls Tryz.prog 114 #[.agg #[.string nm, .slice A l.length c, .int .i64 x.id, .string x.key, .string x.name, .int .i64 x.version, .int .i64 x.phase, .int .i64 x.cause, .slice B x.steps.length cb, .int .i64 (x.freed 0), .int .i64 (x.freed 1), .int .i64 1, .int .i64 (x.freed 3)]] W fun e w' => e = .returned (.tuple #[.bool (mayL l (setFr x 2)), .bool (doneL l (setFr x 2))]) ∧ Below W.heap.size W w'))
 have HF : Aside0 (freeX nm l x 2 = if (!overL x || (x.freed 2 != 0 || !hasI (namedL nm l) 2)) = true then none else some (if doneL l (setFr x 2) = true then closeX (setFr x 2) else setFr x 2)) := ⟨rfl⟩
 have HB := Aside0.mk h
 obtain ⟨hq0, hq1, hq2, hq3, hq4, hq5, hq6, hq7, hq8, hq9, hq10, hq11, hq12⟩ := h.cells
 have hf9 := h.free 11
 clear h hok hnm hS hb hc hT hl8
 generalize freeX nm l x 2 = rr at *
 generalize mayL l (setFr x 2) = mr at *
 generalize doneL l (setFr x 2) = dr at *
 generalize namedL nm l = NL at *
 generalize hasI NL 2 = hs at *
 generalize overL x = ov at *
 generalize hz : (x.freed 2 != 0) = z at *
 go_enter Tryz.func130, Tryz.ntmps130
 rcases (by cases ov <;> cases z <;> cases hs <;> cases dr <;> simp : ov = false ∨ (ov = true ∧ z = true) ∨ (ov = true ∧ z = false ∧ hs = false) ∨ (ov = true ∧ z = false ∧ hs = true ∧ dr = false) ∨ (ov = true ∧ z = false ∧ hs = true ∧ dr = true)) with rfl | ⟨rfl, rfl⟩ | ⟨rfl, rfl, rfl⟩ | ⟨rfl, rfl, rfl, rfl⟩ | ⟨rfl, rfl, rfl, rfl⟩
 all_goals
  go_wp2_with (first | (go_at_call 58; refine (hov.out _).mono ?_; rintro e w1 ⟨rfl, hb1⟩; have H1 := Aside0.mk (HB.out.on hb1); clear hb1; obtain ⟨hr0, hr1, hr2, hr3, hr4, hr5, hr6, hr7, hr8, hr9, hr10, hr11, hr12⟩ := H1.out.cells) | (go_at_call 66; refine (hnd.out _ H1.out.below).mono ?_; rintro e w3 ⟨⟨v3, rfl, ho3⟩, hb3⟩; have H3 := Aside0.mk (And.intro (H1.out.on hb3) ho3); clear ho3 hb3; obtain ⟨hs0, hs1, hs2, hs3, hs4, hs5, hs6, hs7, hs8, hs9, hs10, hs11, hs12⟩ := H3.out.1.cells; have hg9 := H3.out.1.free 11) | (go_at_call 118; refine (hcon.out _ _ _ H3.out.2).mono ?_; rintro e w4 ⟨rfl, rfl⟩) | (go_at_call 114; refine (hfr.out _ H3.out.1.setFr2).mono ?_; rintro e w5 ⟨rfl, hb5⟩; have H5 := Aside0.mk (H3.out.1.setFr2.on hb5); clear hb5) | (go_at_call 169; refine (close_calls H5.out).mono ?_; rintro e w6 ⟨rfl, hb6⟩; have H6 := Aside0.mk hb6; clear hb6))
  go_ret
  first
   | exact OnRes.yes (by rw [HF.out]; rfl) H6.out
   | exact OnRes.yes (by rw [HF.out]; rfl) H5.out
   | exact OnRes.no (by rw [HF.out]; rfl) H3.out.1.below
   | exact OnRes.no (by rw [HF.out]; rfl) H1.out.below
set_option maxHeartbeats 16000000 in
set_option maxRecDepth 100000 in
theorem free3_calls {nm : ByteArray} {l : List Step} {A : Option Addr} {c : Nat} {x : Inst} {B : Option Addr} {cb : Nat} {w W : World} {p : Nat} (h : Bx w W p nm l A c x B cb) (hok : defOk nm l = true) (hnm : nm.size ≤ 140737488351232) (hS : StepsAt w A l) (hb : ∀ s ∈ l, StepB s) (hc : l.length ≤ c) (hT : TabsAt w) :
 Calls Tryz.prog 130 #[.pointer (some ⟨p, 0, none⟩), .int .i64 3] W fun e W' => OnRes w W' p nm l A c (freeX nm l x 3) e := by
 have hl8 := (defOk_len hok).2.1
 have hov := Aside0.mk (fun W => over_calls nm l A c x B cb W)
 have hnd := Aside0.mk (fun W (h : Below w.heap.size w W) => named_calls nm l A c W hnm (hS.below h) hb (by omega) hc (tabs_on hT h))
 have HLN := Aside0.mk (namedL_len nm l)
 have hcon := Aside0.mk (fun W W0 v (h : Pl.Own W0 W v (namedL nm l)) => (has_calls' h (by have := HLN.out; omega) 3))
 have hfr := Aside0.mk (fun W (h : Bx w W p nm l A c (setFr x 3) B cb) => (by exact freed_calls nm l A c (setFr x 3) B cb W hok hnm (hS.below h.below) hb hc (tabs_on hT h.below) : Calls Tryz.prog 114 #[.agg #[.string nm, .slice A l.length c, .int .i64 x.id, .string x.key, .string x.name, .int .i64 x.version, .int .i64 x.phase, .int .i64 x.cause, .slice B x.steps.length cb, .int .i64 (x.freed 0), .int .i64 (x.freed 1), .int .i64 (x.freed 2), .int .i64 1]] W fun e w' => e = .returned (.tuple #[.bool (mayL l (setFr x 3)), .bool (doneL l (setFr x 3))]) ∧ Below W.heap.size W w'))
 have HF : Aside0 (freeX nm l x 3 = if (!overL x || (x.freed 3 != 0 || !hasI (namedL nm l) 3)) = true then none else some (if doneL l (setFr x 3) = true then closeX (setFr x 3) else setFr x 3)) := ⟨rfl⟩
 have HB := Aside0.mk h
 obtain ⟨hq0, hq1, hq2, hq3, hq4, hq5, hq6, hq7, hq8, hq9, hq10, hq11, hq12⟩ := h.cells
 have hf9 := h.free 12
 clear h hok hnm hS hb hc hT hl8
 generalize freeX nm l x 3 = rr at *
 generalize mayL l (setFr x 3) = mr at *
 generalize doneL l (setFr x 3) = dr at *
 generalize namedL nm l = NL at *
 generalize hasI NL 3 = hs at *
 generalize overL x = ov at *
 generalize hz : (x.freed 3 != 0) = z at *
 go_enter Tryz.func130, Tryz.ntmps130
 rcases (by cases ov <;> cases z <;> cases hs <;> cases dr <;> simp : ov = false ∨ (ov = true ∧ z = true) ∨ (ov = true ∧ z = false ∧ hs = false) ∨ (ov = true ∧ z = false ∧ hs = true ∧ dr = false) ∨ (ov = true ∧ z = false ∧ hs = true ∧ dr = true)) with rfl | ⟨rfl, rfl⟩ | ⟨rfl, rfl, rfl⟩ | ⟨rfl, rfl, rfl, rfl⟩ | ⟨rfl, rfl, rfl, rfl⟩
 all_goals
  go_wp2_with (first | (go_at_call 58; refine (hov.out _).mono ?_; rintro e w1 ⟨rfl, hb1⟩; have H1 := Aside0.mk (HB.out.on hb1); clear hb1; obtain ⟨hr0, hr1, hr2, hr3, hr4, hr5, hr6, hr7, hr8, hr9, hr10, hr11, hr12⟩ := H1.out.cells) | (go_at_call 66; refine (hnd.out _ H1.out.below).mono ?_; rintro e w3 ⟨⟨v3, rfl, ho3⟩, hb3⟩; have H3 := Aside0.mk (And.intro (H1.out.on hb3) ho3); clear ho3 hb3; obtain ⟨hs0, hs1, hs2, hs3, hs4, hs5, hs6, hs7, hs8, hs9, hs10, hs11, hs12⟩ := H3.out.1.cells; have hg9 := H3.out.1.free 12) | (go_at_call 118; refine (hcon.out _ _ _ H3.out.2).mono ?_; rintro e w4 ⟨rfl, rfl⟩) | (go_at_call 114; refine (hfr.out _ H3.out.1.setFr3).mono ?_; rintro e w5 ⟨rfl, hb5⟩; have H5 := Aside0.mk (H3.out.1.setFr3.on hb5); clear hb5) | (go_at_call 169; refine (close_calls H5.out).mono ?_; rintro e w6 ⟨rfl, hb6⟩; have H6 := Aside0.mk hb6; clear hb6))
  go_ret
  first
   | exact OnRes.yes (by rw [HF.out]; rfl) H6.out
   | exact OnRes.yes (by rw [HF.out]; rfl) H5.out
   | exact OnRes.no (by rw [HF.out]; rfl) H3.out.1.below
   | exact OnRes.no (by rw [HF.out]; rfl) H1.out.below
theorem free_calls {nm : ByteArray} {l : List Step} {A : Option Addr} {c : Nat} {x : Inst} {B : Option Addr} {cb : Nat} {w W : World} {p : Nat} (h : Bx w W p nm l A c x B cb) (hok : defOk nm l = true) (hnm : nm.size ≤ 140737488351232) (hS : StepsAt w A l) (hb : ∀ s ∈ l, StepB s) (hc : l.length ≤ c) (hT : TabsAt w) {q : Int} (h0 : 0 ≤ q) (h3 : q ≤ 3) :
 Calls Tryz.prog 130 #[.pointer (some ⟨p, 0, none⟩), .int .i64 q] W fun e W' => OnRes w W' p nm l A c (freeX nm l x q) e := by
 have hq : q = 0 ∨ q = 1 ∨ q = 2 ∨ q = 3 := by omega
 rcases hq with rfl | rfl | rfl | rfl
 · exact free0_calls h hok hnm hS hb hc hT
 · exact free1_calls h hok hnm hS hb hc hT
 · exact free2_calls h hok hnm hS hb hc hT
 · exact free3_calls h hok hnm hS hb hc hT
end Go.Proofs.YtgjddnaidjbhlaaGreatDoor.Ph

/- phase: issue of a view in a box (P19): walked by hand. -/
namespace Go.Proofs.YtgjddnaidjbhlaaGreatDoor.Ph
open Go.RowKit Go.IntWalk Go.Proofs.YtgjddnaidjbhlaaGreatDoorW.PrintWords Go.Proofs.YtgjddnaidjbhlaaGreatDoorW.PrintLast Go.Proofs.YtgjddnaidjbhlaaGreatDoorW.PrintMore Go.Proofs.YtgjddnaidjbhlaaGreatDoor.PlName Go.Proofs.YtgjddnaidjbhlaaGreatDoor.Pl
attribute [local go_sem ↓] Go.wp_at_zero Go.wp_at_succ

/-- A view in a box of one's own, and a note in another. -/
structure Bn (w W : World) (p : Nat) (nm : ByteArray) (l : List Step) (A : Option Addr) (c : Nat) (x : Inst) (B : Option Addr) (cb : Nat) (g : Nat) (n : Note) : Prop where
 bx : Bx w W p nm l A c x B cb
 nbox : W.heap[g]? = some (.cells #[.int .i64 n.kind, .int .i64 n.inst, .int .i64 n.step, .int .i64 n.state, .int .i64 n.part, .int .i64 n.cause, .string n.key, .string n.name, .int .i64 n.version, .string n.text] 37 (0, 0))
 ne : g ≠ p
section
variable {w W W2 : World} {p g : Nat} {n : Note} {nm : ByteArray} {l : List Step} {A : Option Addr} {c : Nat} {x : Inst} {B : Option Addr} {cb : Nat}
theorem Bn.on (h : Bn w W p nm l A c x B cb g n) (hb : Below W.heap.size W W2) : Bn w W2 p nm l A c x B cb g n := ⟨h.bx.on hb, row_on hb h.nbox, h.ne⟩
theorem Bn.cells (h : Bn w W p nm l A c x B cb g n) : W.cell? ⟨p, 0, none⟩ = some (.string nm) ∧ W.cell? ⟨p, 1, none⟩ = some (.slice A l.length c) ∧ W.cell? ⟨p, 2, none⟩ = some (.int .i64 x.id) ∧ W.cell? ⟨p, 3, none⟩ = some (.string x.key) ∧ W.cell? ⟨p, 4, none⟩ = some (.string x.name) ∧ W.cell? ⟨p, 5, none⟩ = some (.int .i64 x.version) ∧ W.cell? ⟨p, 6, none⟩ = some (.int .i64 x.phase) ∧ W.cell? ⟨p, 7, none⟩ = some (.int .i64 x.cause) ∧ W.cell? ⟨p, 8, none⟩ = some (.slice B x.steps.length cb) ∧ W.cell? ⟨p, 9, none⟩ = some (.int .i64 (x.freed 0)) ∧ W.cell? ⟨p, 10, none⟩ = some (.int .i64 (x.freed 1)) ∧ W.cell? ⟨p, 11, none⟩ = some (.int .i64 (x.freed 2)) ∧ W.cell? ⟨p, 12, none⟩ = some (.int .i64 (x.freed 3)) ∧ W.cell? ⟨g, 2, none⟩ = some (.int .i64 n.step) := by
 obtain ⟨h0, h1, h2, h3, h4, h5, h6, h7, h8, h9, h10, h11, h12⟩ := h.bx.cells
 exact ⟨h0, h1, h2, h3, h4, h5, h6, h7, h8, h9, h10, h11, h12, row_cell h.nbox rfl⟩
theorem Bn.start (h : Bx w W p nm l A c x B cb) (n : Note) : Bn w (W.alloc (.cells #[.int .i64 n.kind, .int .i64 n.inst, .int .i64 n.step, .int .i64 n.state, .int .i64 n.part, .int .i64 n.cause, .string n.key, .string n.name, .int .i64 n.version, .string n.text] 37)) p nm l A c x B cb W.heap.size n :=
 ⟨h.on (below_one _ _), alloc1 W _, fun e => by have := (Array.getElem?_eq_some_iff.1 h.box).1; omega⟩
theorem Bn.drew (h : Bn w W p nm l A c x B cb g n) : Bn w W.drew p nm l A c x B cb g n := h.on (below_drew (Below.refl _ _))
end
theorem hasI_in {L : List Nat} {k : Int} (h : hasI L k = true) : ∃ i : Nat, k = (i : Int) ∧ i ∈ L := by
 unfold hasI intsOf at h
 rw [List.contains_iff_mem, List.mem_map] at h
 obtain ⟨i, hi, e⟩ := h
 exact ⟨i, e.symm, hi⟩
theorem readyL_in {nm : ByteArray} {l : List Step} {st : List Int} {k : Int} (h : hasI (readyL nm l st) k = true) : ∃ i : Nat, k = (i : Int) ∧ i < l.length := by
 obtain ⟨i, e, hi⟩ := hasI_in h
 unfold readyL at hi
 split at hi
 · exact ⟨i, e, (mem_sel.1 hi).1⟩
 · cases hi
theorem readyL_short (nm : ByteArray) (l : List Step) (st : List Int) (hl8 : l.length ≤ 8) : (readyL nm l st).length ≤ 8 := by
 unfold readyL
 split
 · exact Nat.le_trans (sel_len _ _) hl8
 · simp
theorem undoL_short (nm : ByteArray) (l : List Step) (st : List Int) (hl8 : l.length ≤ 8) : (undoL nm l st).length ≤ 8 := by
 unfold undoL
 split
 · exact Nat.le_trans (sel_len _ _) hl8
 · simp
set_option maxHeartbeats 16000000 in
set_option maxRecDepth 100000 in
theorem issue_calls {nm : ByteArray} {l : List Step} {A : Option Addr} {c : Nat} {x : Inst} {B : Option Addr} {cb : Nat} {w W : World} {p : Nat} {n : Note} (h : Bx w W p nm l A c x B cb) (hnm : nm.size ≤ 140737488351232) (hS : StepsAt w A l) (hb : ∀ s ∈ l, StepB s) (hl8 : l.length ≤ 8) (hc : l.length ≤ c) (hT : TabsAt w) (hx : x.steps.length = l.length) :
 Calls Tryz.prog 128 #[.pointer (some ⟨p, 0, none⟩), .agg #[.int .i64 n.kind, .int .i64 n.inst, .int .i64 n.step, .int .i64 n.state, .int .i64 n.part, .int .i64 n.cause, .string n.key, .string n.name, .int .i64 n.version, .string n.text]] W fun e W' => OnRes w W' p nm l A c (issueX nm l x n.step) e := by
 have HB := Aside0.mk (Bn.start h n)
 have HA := Aside0.mk hS
 have hrd := Aside0.mk (fun U g (h : Bn w U p nm l A c x B cb g n) => ready_at nm l A c B cb x.steps U hnm (hS.below h.bx.below) hb (by omega) hc (tabs_on hT h.bx.below) h.bx.reads (by omega))
 have HSH := Aside0.mk (readyL_short nm l x.steps hl8)
 have hcon := Aside0.mk (fun U W0 v (h : Pl.Own W0 U v (readyL nm l x.steps)) => has_calls' h (by have := HSH.out; omega) n.step)
 have HF : Aside0 (issueX nm l x n.step = if ((x.phase != 1 && x.phase != 3) || !hasI (readyL nm l x.steps) n.step) = true then none else some (if (kindOf l n.step.toNat == 2) = true then phX (setSt x n.step.toNat 1) 2 else setSt x n.step.toNat 1)) := ⟨rfl⟩
 have HIN := Aside0.mk (readyL_in (nm := nm) (l := l) (st := x.steps) (k := n.step))
 have HXX := Aside0.mk (And.intro hx hl8)
 clear h hnm hS hb hc hT hx hl8
 generalize issueX nm l x n.step = rr at *
 generalize readyL nm l x.steps = L at *
 generalize hasI L n.step = hs at *
 have hn1 : (x.phase != 1) = !(x.phase == 1) := rfl
 have hn3 : (x.phase != 3) = !(x.phase == 3) := rfl
 rw [hn1, hn3] at HF
 generalize hq1 : (x.phase == 1) = q1 at *
 generalize hq3 : (x.phase == 3) = q3 at *
 go_enter Tryz.func128, Tryz.ntmps128
 go_wp2
 generalize W.heap.size = g at *
 generalize World.alloc W _ = w0 at *
 obtain ⟨ha0, ha1, ha2, ha3, ha4, ha5, ha6, ha7, ha8, ha9, ha10, ha11, ha12, ha13⟩ := HB.out.cells
 go_cut [34] (fun v34 wc => v34 = .bool ((!q1 && !q3) || !hs) ∧ Bn w wc p nm l A c x B cb g n)
 case first =>
  rcases (by cases q1 <;> cases q3 <;> simp : (q1 = false ∧ q3 = false) ∨ (q1 = false ∧ q3 = true) ∨ q1 = true) with ⟨rfl, rfl⟩ | ⟨rfl, rfl⟩ | rfl
  all_goals (try simp only [Bool.not_true, Bool.not_false] at hn1 hn3)
  · go_quiet (fail)
    go_wp2_with fail
    go_meet
    exact ⟨rfl, HB.out.on (bdn (Below.refl _ _))⟩
  ·
   refine start_ (n := 30) (S := fun w' => w'.cell? ⟨p, 1, none⟩ = some (.slice A l.length c) ∧ w'.cell? ⟨p, 0, none⟩ = some (.string nm) ∧ w'.cell? ⟨p, 6, none⟩ = some (.int .i64 x.phase) ∧ w'.cell? ⟨p, 8, none⟩ = some (.slice B x.steps.length cb) ∧ w'.cell? ⟨g, 2, none⟩ = some (.int .i64 n.step) ∧ Bn w w' p nm l A c x B cb g n) (ds := []) #[false,false,false,false,false,false,false,false,false,false,false,false,false,false,false,false,false,false,false,false,false,false,false,false,false,false,false,false,false,false] (by kernel_rfl) rfl rfl ⟨(by go_keep), (by go_keep), (by go_keep), (by go_keep), (by go_keep), (HB.out.on (below_drew (Below.refl _ _)))⟩ (fun hHeld => ?_)
   refine zV 0 5 30 1 ?_
   refine zV 1 6 30 3 ?_
   refine zV 2 7 30 7 ?_
   refine zV 3 8 30 15 ?_
   refine zT 4 9 30 31 hHeld ?_
   refine zV 5 10 30 63 ?_
   refine zV 6 11 30 127 ?_
   refine zV 7 12 30 255 ?_
   refine zV 8 13 30 511 ?_
   refine zV 9 14 30 1023 ?_
   refine zV 10 15 30 2047 ?_
   refine zT 11 16 30 4095 hHeld ?_
   refine zV 12 17 30 8191 ?_
   refine zV 13 18 30 16383 ?_
   refine zV 14 19 30 32767 ?_
   refine zV 15 20 30 65535 ?_
   refine zV 16 21 30 131071 ?_
   refine zV 17 22 30 262143 ?_
   refine zV 19 24 30 786431 ?_
   refine zV 20 25 30 1835007 ?_
   refine zV 21 26 30 3932159 ?_
   refine zV 22 27 30 8126463 ?_
   refine zV 25 30 30 41680895 ?_
   refine zT 18 23 30 41943039 hHeld ?_
   refine zT 23 28 30 50331647 hHeld ?_
   refine zT 26 31 30 117440511 hHeld ?_
   refine one_ (i := 24) (N := some 29) (zG 30 134217727) rfl rfl (by kernel_rfl) (by decide) (fun K hK => ?_)
   refine goes_ Tryz.func63 (by kernel_rfl) rfl #[.agg #[.string nm, .slice A l.length c], .slice B x.steps.length cb] (by rfl) rfl rfl (by simp only [List.map_toArray, List.map_cons, List.map_nil]; rfl) ?_
   with_reducible refine (hrd.out _ g hHeld.2.2.2.2.2).mono ?_
   rintro e w3 ⟨⟨v3, rfl, ho3⟩, hb3⟩
   refine ⟨_, rfl, ?_⟩
   refine hK.out _ _ ⟨(cell_on hb3 hHeld.1), (cell_on hb3 hHeld.2.1), (cell_on hb3 hHeld.2.2.1), (cell_on hb3 hHeld.2.2.2.1), (cell_on hb3 hHeld.2.2.2.2.1), (hHeld.2.2.2.2.2.on hb3)⟩ (fun hHeld => ?_)
   clear hK K
   refine norm_ (a' := ?_) ?_ ?_
   rotate_left
   · show Act.put _ (some 29) _ = _
     simp only [Act.put, zA, zB, zC, i64_w, i32_w]
     rfl
   refine one_ (i := 27) (N := some 32) (zG 30 268435455) rfl rfl (by kernel_rfl) (by decide) (fun K hK => ?_)
   refine goes_ Tryz.func118 (by kernel_rfl) rfl #[v3, .int .i64 n.step] (by rfl) rfl rfl (by simp only [List.map_toArray, List.map_cons, List.map_nil]; rfl) ?_
   with_reducible refine (hcon.out _ _ _ ho3).mono ?_
   rintro e w4 ⟨rfl, rfl⟩
   refine ⟨_, rfl, ?_⟩
   refine hK.out _ _ ⟨(by go_keep), (by go_keep), (by go_keep), (by go_keep), (by go_keep), (by go_keep)⟩ (fun hHeld => ?_)
   clear hK K
   refine norm_ (a' := ?_) ?_ ?_
   rotate_left
   · show Act.put _ (some 32) _ = _
     simp only [Act.put, zA, zB, zC, i64_w, i32_w]
     rfl
   refine zV 28 33 30 536870911 ?_
   refine zV 29 34 30 1073741823 ?_
   refine done_ (by kernel_rfl) ?_
   go_wp2_with fail
   go_meet
   exact ⟨rfl, hHeld.2.2.2.2.2⟩
  ·
   refine start_ (n := 30) (S := fun w' => w'.cell? ⟨p, 1, none⟩ = some (.slice A l.length c) ∧ w'.cell? ⟨p, 0, none⟩ = some (.string nm) ∧ w'.cell? ⟨p, 6, none⟩ = some (.int .i64 x.phase) ∧ w'.cell? ⟨p, 8, none⟩ = some (.slice B x.steps.length cb) ∧ w'.cell? ⟨g, 2, none⟩ = some (.int .i64 n.step) ∧ Bn w w' p nm l A c x B cb g n) (ds := []) #[false,false,false,false,false,false,false,false,false,false,false,false,false,false,false,false,false,false,false,false,false,false,false,false,false,false,false,false,false,false] (by kernel_rfl) rfl rfl ⟨(by go_keep), (by go_keep), (by go_keep), (by go_keep), (by go_keep), (HB.out.on (below_drew (Below.refl _ _)))⟩ (fun hHeld => ?_)
   refine zV 0 5 30 1 ?_
   refine zV 1 6 30 3 ?_
   refine zV 2 7 30 7 ?_
   refine zV 3 8 30 15 ?_
   refine zT 4 9 30 31 hHeld ?_
   refine zV 5 10 30 63 ?_
   refine zV 6 11 30 127 ?_
   refine zU 7 12 30 255 ?_
   refine zU 8 13 30 511 ?_
   refine zU 9 14 30 1023 ?_
   refine zU 10 15 30 2047 ?_
   refine zU 11 16 30 4095 ?_
   refine zU 12 17 30 8191 ?_
   refine zV 13 18 30 16383 ?_
   refine zV 14 19 30 32767 ?_
   refine zV 15 20 30 65535 ?_
   refine zV 16 21 30 131071 ?_
   refine zV 17 22 30 262143 ?_
   refine zV 19 24 30 786431 ?_
   refine zV 20 25 30 1835007 ?_
   refine zV 21 26 30 3932159 ?_
   refine zV 22 27 30 8126463 ?_
   refine zV 25 30 30 41680895 ?_
   refine zT 18 23 30 41943039 hHeld ?_
   refine zT 23 28 30 50331647 hHeld ?_
   refine zT 26 31 30 117440511 hHeld ?_
   refine one_ (i := 24) (N := some 29) (zG 30 134217727) rfl rfl (by kernel_rfl) (by decide) (fun K hK => ?_)
   refine goes_ Tryz.func63 (by kernel_rfl) rfl #[.agg #[.string nm, .slice A l.length c], .slice B x.steps.length cb] (by rfl) rfl rfl (by simp only [List.map_toArray, List.map_cons, List.map_nil]; rfl) ?_
   with_reducible refine (hrd.out _ g hHeld.2.2.2.2.2).mono ?_
   rintro e w3 ⟨⟨v3, rfl, ho3⟩, hb3⟩
   refine ⟨_, rfl, ?_⟩
   refine hK.out _ _ ⟨(cell_on hb3 hHeld.1), (cell_on hb3 hHeld.2.1), (cell_on hb3 hHeld.2.2.1), (cell_on hb3 hHeld.2.2.2.1), (cell_on hb3 hHeld.2.2.2.2.1), (hHeld.2.2.2.2.2.on hb3)⟩ (fun hHeld => ?_)
   clear hK K
   refine norm_ (a' := ?_) ?_ ?_
   rotate_left
   · show Act.put _ (some 29) _ = _
     simp only [Act.put, zA, zB, zC, i64_w, i32_w]
     rfl
   refine one_ (i := 27) (N := some 32) (zG 30 268435455) rfl rfl (by kernel_rfl) (by decide) (fun K hK => ?_)
   refine goes_ Tryz.func118 (by kernel_rfl) rfl #[v3, .int .i64 n.step] (by rfl) rfl rfl (by simp only [List.map_toArray, List.map_cons, List.map_nil]; rfl) ?_
   with_reducible refine (hcon.out _ _ _ ho3).mono ?_
   rintro e w4 ⟨rfl, rfl⟩
   refine ⟨_, rfl, ?_⟩
   refine hK.out _ _ ⟨(by go_keep), (by go_keep), (by go_keep), (by go_keep), (by go_keep), (by go_keep)⟩ (fun hHeld => ?_)
   clear hK K
   refine norm_ (a' := ?_) ?_ ?_
   rotate_left
   · show Act.put _ (some 32) _ = _
     simp only [Act.put, zA, zB, zC, i64_w, i32_w]
     rfl
   refine zV 28 33 30 536870911 ?_
   refine zV 29 34 30 1073741823 ?_
   refine done_ (by kernel_rfl) ?_
   go_wp2_with fail
   go_meet
   exact ⟨rfl, hHeld.2.2.2.2.2⟩
 case rest =>
  clear HB hrd hcon ha0 ha1 ha2 ha3 ha4 ha5 ha6 ha7 ha8 ha9 ha10 ha11 ha12 ha13
  obtain ⟨rfl, hN⟩ := hcut
  have HN := Aside0.mk hN
  clear hN
  cases hbad : ((!q1 && !q3) || !hs)
  · have hhs : hs = true := by
     cases hs
     · rw [Bool.not_false, Bool.or_true] at hbad
       cases hbad
     · rfl
    rw [hbad] at HF
    obtain ⟨i, hi, hlt⟩ := HIN.out hhs
    clear hbad hhs HIN
    have hix : i < x.steps.length := by have := HXX.out.1; omega
    obtain ⟨gb, cur, hBe, hne, hlo, hrow, hcell, hset⟩ := HN.out.bx.row hix
    subst hBe
    have hfz := free_of_row (j := i) hrow
    have hgb : gb ≠ g := fun e => by
     subst e
     rw [HN.out.nbox] at hrow
     cases hrow
    obtain ⟨hc0, hc1, hc2, hc3, hc4, hc5, hc6, hc7, hc8, hc9, hc10, hc11, hc12, hc13⟩ := HN.out.cells
    rw [hi] at HF hc13
    have HSET := Aside0.mk (hset 1)
    clear hset hrow
    have hd1 : decide ((i : Int) < (x.steps.length : Int)) = true := decide_eq_true (by omega)
    go_wp2_with fail
    go_region_held3 (fun w' => w'.cell? ⟨p, 8, none⟩ = some (.slice (some ⟨gb, 0, none⟩) x.steps.length cb) ∧ w'.cell? ⟨g, 2, none⟩ = some (.int .i64 (i : Int))) (first | go_keep) (first | fail)
    go_wp2_with fail
    have HS : Aside0 (Bn w (wc.setCell ⟨gb, i, none⟩ (.int .i64 1)).drew p nm l A c (setSt x i 1) (some ⟨gb, 0, none⟩) cb g n) := ⟨Bn.drew ⟨HSET.out, row_setCell_ne HN.out.nbox _ _ (Ne.symm hgb), HN.out.ne⟩⟩
    clear HSET HN hcell hfz hc0 hc1 hc2 hc3 hc4 hc5 hc6 hc7 hc8 hc9 hc10 hc11 hc12 hc13
    generalize World.drew _ = w5 at *
    obtain ⟨hd_0, hd_1, hd_2, hd_3, hd_4, hd_5, hd_6, hd_7, hd_8, hd_9, hd_10, hd_11, hd_12, hd_13⟩ := HS.out.cells
    have hf6 := HS.out.bx.free 6
    obtain ⟨ad, hAe, A1, c1, A2, c2, h1⟩ := HA.out.one (stepAt_eq hlt)
    subst hAe
    have hkd := (h1.below HS.out.bx.below).c1_
    have hd2 : decide ((i : Int) < (l.length : Int)) = true := decide_eq_true (by omega)
    clear h1
    have HFK : Aside0 (rr = some (if ((stepAt l i).kind == 2) = true then phX (setSt x i 1) 2 else setSt x i 1)) := ⟨HF.out⟩
    clear HF
    generalize (stepAt l i).kind = kd at *
    cases hk2 : (kd == 2)
    all_goals
     rw [hk2] at HFK
     go_quiet (fail)
     go_wp2_with fail
     go_ret
    · exact OnRes.yes HFK.out (HS.out.bx.on (bdn (Below.refl _ _)))
    · exact OnRes.yes HFK.out ((HS.out.bx.on (bdn (Below.refl _ _))).setPh 2)
  · rw [hbad] at HF
    go_wp2
    go_ret
    exact OnRes.no (by rw [HF.out]; rfl) HN.out.bx.below
end Go.Proofs.YtgjddnaidjbhlaaGreatDoor.Ph

/- phase.Next (P19): walked by hand. -/
namespace Go.Proofs.YtgjddnaidjbhlaaGreatDoor.Ph
open Go.RowKit Go.IntWalk Go.Proofs.YtgjddnaidjbhlaaGreatDoorW.PrintWords Go.Proofs.YtgjddnaidjbhlaaGreatDoorW.PrintLast Go.Proofs.YtgjddnaidjbhlaaGreatDoorW.PrintMore Go.Proofs.YtgjddnaidjbhlaaGreatDoor.PlName Go.Proofs.YtgjddnaidjbhlaaGreatDoor.Pl

/-- A definition, an instance and a view lie in boxes. -/
structure Nx (w W : World) (nm : ByteArray) (l : List Step) (A : Option Addr) (c : Nat) (x : Inst) (B : Option Addr) (cb : Nat) : Prop where
 dx : Dx w W nm l A c x B cb
 vbox : W.heap[w.heap.size + 2]? = some (.cells #[.string nm, .slice A l.length c, .int .i64 x.id, .string x.key, .string x.name, .int .i64 x.version, .int .i64 x.phase, .int .i64 x.cause, .slice B x.steps.length cb, .int .i64 (x.freed 0), .int .i64 (x.freed 1), .int .i64 (x.freed 2), .int .i64 (x.freed 3)] 65 (0, 0))
theorem alloc_3 (w : World) (a b c : Obj) : (((w.alloc a).alloc b).alloc c).heap[w.heap.size + 2]? = some c := by
 have h1 := alloc1 ((w.alloc a).alloc b) c
 have h2 : ((w.alloc a).alloc b).heap.size = w.heap.size + 2 := by
  show ((w.heap.push _).push _).size = _
  simp
 rw [h2] at h1
 exact h1
section
variable {w W W2 : World} {nm : ByteArray} {l : List Step} {A : Option Addr} {c : Nat} {x : Inst} {B : Option Addr} {cb : Nat}
theorem Nx.on (h : Nx w W nm l A c x B cb) (hb : Below W.heap.size W W2) : Nx w W2 nm l A c x B cb := ⟨h.dx.on hb, row_on hb h.vbox⟩
theorem Nx.start (nm : ByteArray) (l : List Step) (A : Option Addr) (c : Nat) (x : Inst) (B : Option Addr) (cb : Nat) (w : World) : Nx w (((w.alloc (.cells #[.string nm, .slice A l.length c] 24)).alloc (.cells #[.int .i64 x.id, .string x.key, .string x.name, .int .i64 x.version, .int .i64 x.phase, .int .i64 x.cause, .slice B x.steps.length cb, .int .i64 (x.freed 0), .int .i64 (x.freed 1), .int .i64 (x.freed 2), .int .i64 (x.freed 3)] 28)).alloc (.cells #[.string nm, .slice A l.length c, .int .i64 x.id, .string x.key, .string x.name, .int .i64 x.version, .int .i64 x.phase, .int .i64 x.cause, .slice B x.steps.length cb, .int .i64 (x.freed 0), .int .i64 (x.freed 1), .int .i64 (x.freed 2), .int .i64 (x.freed 3)] 65)) nm l A c x B cb := ⟨(Dx.start nm l A c x B cb w).on (below_one _ _), alloc_3 w _ _ _⟩
theorem Nx.cells (h : Nx w W nm l A c x B cb) : W.cell? ⟨w.heap.size, 0, none⟩ = some (.string nm) ∧ W.cell? ⟨w.heap.size, 1, none⟩ = some (.slice A l.length c) ∧ W.cell? ⟨w.heap.size + 1, 0, none⟩ = some (.int .i64 x.id) ∧ W.cell? ⟨w.heap.size + 1, 4, none⟩ = some (.int .i64 x.phase) ∧ W.cell? ⟨w.heap.size + 1, 6, none⟩ = some (.slice B x.steps.length cb) := ⟨row_cell h.dx.dbox rfl, row_cell h.dx.dbox rfl, row_cell h.dx.xbox rfl, row_cell h.dx.xbox rfl, row_cell h.dx.xbox rfl⟩
theorem Nx.bv (h : Nx w W nm l A c x B cb) (rd : Kd.C (Kd.int .i64) w B x.steps.length x.steps) : Bv w W (w.heap.size + 2) nm l A c x B cb := ⟨h.dx.below, h.vbox, by omega, rd⟩
end
theorem ownN_low {w : World} {lo lo' : Nat} {v : Value} {L : List Note} (h : OwnN w lo v L) (hle : lo' ≤ lo) : OwnN w lo' v L := by
 refine ⟨h.1, ?_⟩
 rcases h.2 with hn | ⟨g, cap, cur, e, h1, rest⟩
 · exact .inl hn
 · exact .inr ⟨g, cap, cur, e, Nat.le_trans hle h1, rest⟩
theorem ownN_shape {w : World} {lo : Nat} {v : Value} {L : List Note} (h : OwnN w lo v L) : ∃ A c, v = .slice A L.length c := by
 rcases h.2 with ⟨e, h0⟩ | ⟨g, cap, cur, e, _⟩
 · exact ⟨none, 0, by rw [e, h0]⟩
 · exact ⟨_, _, e⟩
theorem take_map {α β : Type} {f : α → β} {L : List α} {k : Nat} (h : k < L.length) : (L.take (k + 1)).map f = (L.take k).map f ++ [f L[k]] := by
 rw [List.take_succ_eq_append_getElem h, List.map_append]
 rfl
set_option maxHeartbeats 16000000 in
set_option maxRecDepth 100000 in
theorem next_no (nm : ByteArray) (l : List Step) (A : Option Addr) (c : Nat) (x : Inst) (B : Option Addr) (cb : Nat) (w : World) (hnm : nm.size ≤ 140737488351232) (hxk : x.key.size ≤ 140737488351232) (hS : StepsAt w A l) (hb : ∀ s ∈ l, StepB s) (hn : l.length ≤ 9000000000000) (hc : l.length ≤ c) (hT : TabsAt w) (hB : Kd.C (Kd.int .i64) w B x.steps.length x.steps) (hxs : x.steps.length ≤ 17592186044416) (hno : sortL nm l x ≠ 1) :
 Calls Tryz.prog 25 #[.agg #[.string nm, .slice A l.length c], .agg #[.int .i64 x.id, .string x.key, .string x.name, .int .i64 x.version, .int .i64 x.phase, .int .i64 x.cause, .slice B x.steps.length cb, .int .i64 (x.freed 0), .int .i64 (x.freed 1), .int .i64 (x.freed 2), .int .i64 (x.freed 3)]] w fun e w' => (∃ v, e = .returned v ∧ OwnN w' w.heap.size v (nextL nm l x)) ∧ Below w.heap.size w w' := by
 have HV := Aside0.mk (Nx.start nm l A c x B cb w)
 have hso := Aside0.mk (fun W (h : Below w.heap.size w W) => sort_calls nm l A c x B cb W hnm hxk (hS.below h) hb hn hc (tabs_on hT h) (Kd.C_below hB h) hxs)
 have hd : (sortL nm l x != 1) = true := bne_iff_ne.2 hno
 have HR : Aside0 (nextL nm l x = []) := ⟨by unfold nextL; rw [if_pos hd]⟩
 clear hnm hxk hS hb hn hT hB hxs hno
 generalize sortL nm l x = so at *
 go_enter Tryz.func25, Tryz.ntmps25
 go_wp2_with (first | (go_at_call 52; refine (hso.out _ HV.out.dx.below).mono ?_; rintro e w1 ⟨rfl, hb1⟩; have H1 := Aside0.mk (HV.out.on hb1); clear hb1))
 go_ret
 exact ⟨⟨_, rfl, by rw [HR.out]; exact ownN_nil _ _⟩, H1.out.dx.below⟩
set_option maxHeartbeats 16000000 in
set_option maxRecDepth 100000 in
theorem next_yes (nm : ByteArray) (l : List Step) (A : Option Addr) (c : Nat) (x : Inst) (B : Option Addr) (cb : Nat) (w : World) (hnm : nm.size ≤ 140737488351232) (hxk : x.key.size ≤ 140737488351232) (hS : StepsAt w A l) (hb : ∀ s ∈ l, StepB s) (hn : l.length ≤ 9000000000000) (hc : l.length ≤ c) (hT : TabsAt w) (hB : Kd.C (Kd.int .i64) w B x.steps.length x.steps) (hxs : x.steps.length ≤ 17592186044416) (hyes : sortL nm l x = 1) :
 Calls Tryz.prog 25 #[.agg #[.string nm, .slice A l.length c], .agg #[.int .i64 x.id, .string x.key, .string x.name, .int .i64 x.version, .int .i64 x.phase, .int .i64 x.cause, .slice B x.steps.length cb, .int .i64 (x.freed 0), .int .i64 (x.freed 1), .int .i64 (x.freed 2), .int .i64 (x.freed 3)]] w fun e w' => (∃ v, e = .returned v ∧ OwnN w' w.heap.size v (nextL nm l x)) ∧ Below w.heap.size w w' := by
 have HV := Aside0.mk (Nx.start nm l A c x B cb w)
 obtain ⟨hhd, hx, _, _, _⟩ := sort_open hyes
 have hl8 := (defOk_len (headOk_def hhd)).2.1
 have hso := Aside0.mk (fun W (h : Below w.heap.size w W) => (by
  have := sort_calls nm l A c x B cb W hnm hxk (hS.below h) hb hn hc (tabs_on hT h) (Kd.C_below hB h) hxs
  rw [hyes] at this
  exact this : Calls Tryz.prog 52 #[.agg #[.string nm, .slice A l.length c, .int .i64 x.id, .string x.key, .string x.name, .int .i64 x.version, .int .i64 x.phase, .int .i64 x.cause, .slice B x.steps.length cb, .int .i64 (x.freed 0), .int .i64 (x.freed 1), .int .i64 (x.freed 2), .int .i64 (x.freed 3)]] W fun e w' => e = .returned (.int .i64 1) ∧ Below W.heap.size W w'))
 have hrd := Aside0.mk (fun W (h : Below w.heap.size w W) => ready_at nm l A c B cb x.steps W hnm (hS.below h) hb (by omega) hc (tabs_on hT h) (Kd.C_below hB h) (by omega))
 have hen := Aside0.mk (fun W (h : Nx w W nm l A c x B cb) => end_tells (h.bv hB) hl8 hS hx)
 have HSH := Aside0.mk (readyL_short nm l x.steps hl8)
 have HR : Aside0 (nextL nm l x = readyN nm l x ++ (if ((readyN nm l x).isEmpty && (endX l x).isSome) = true then [noteOf x 7] else [])) := ⟨by unfold nextL; rw [hyes]; rfl⟩
 have HN : Aside0 (readyN nm l x = if (x.phase == 1 || x.phase == 3) = true then (readyL nm l x.steps).map (issueOf x) else []) := ⟨rfl⟩
 have hl7 : (readyN nm l x).length ≤ 8 := by
  rw [HN.out]
  have := HSH.out
  split
  · rw [List.length_map]
    exact this
  · simp
 clear hnm hxk hS hb hn hT hB hxs hyes hhd hx
 obtain ⟨i37, hi37, hz37, hs37, hb37⟩ := info_parts note_info
 have HI := Aside0.mk (And.intro hi37 (And.intro hz37 (And.intro hs37 hb37)))
 clear hi37 hz37 hs37 hb37
 generalize (endX l x).isSome = en at *
 generalize readyL nm l x.steps = L at *
 generalize hRN : readyN nm l x = RN at *
 generalize hp1 : (x.phase == 1) = p1 at *
 generalize hp3 : (x.phase == 3) = p3 at *
 go_enter Tryz.func25, Tryz.ntmps25
 go_upto_region 5 with (first | (go_at_call 52; refine (hso.out _ HV.out.dx.below).mono ?_; rintro e w1 ⟨rfl, hb1⟩; have H1 := Aside0.mk (HV.out.on hb1); clear hb1; obtain ⟨hq0, hq1, hq2, hq3, hq4⟩ := H1.out.cells))
 go_cut [22] (fun v22 wc => v22 = .bool (p1 || p3) ∧ Nx w wc nm l A c x B cb)
 case first =>
  cases p1
  all_goals
   go_wp2_with fail
   go_meet
   exact ⟨rfl, H1.out⟩
 case rest =>
  clear H1 HV hq0 hq1 hq2 hq3 hq4 hp1 hp3
  obtain ⟨rfl, hN1⟩ := hcut
  have H1 := Aside0.mk hN1
  clear hN1
  obtain ⟨hq0, hq1, hq2, hq3, hq4⟩ := H1.out.cells
  generalize (p1 || p3) = q at *
  go_upto_if 22 with fail
  go_cut [6] (fun v6 wc => OwnN wc w.heap.size v6 RN ∧ (RN = [] → v6 = .slice none 0 0) ∧ Nx w wc nm l A c x B cb)
  case first =>
   cases q
   · go_wp2_with fail
     go_meet
     exact ⟨by rw [HN.out]; exact ownN_nil _ _, fun _ => rfl, H1.out⟩
   · go_wp2_with (first | (go_at_call 63; refine (hrd.out _ H1.out.dx.below).mono ?_; rintro e w3 ⟨⟨v3, rfl, ho3⟩, hb3⟩; obtain ⟨A3, c3, rfl, _, hr3⟩ := own_reads ho3; have H3 := Aside0.mk (And.intro (H1.out.on hb3) hr3); clear ho3 hb3 hr3))
     have hLL := HSH.out
     clear hq0 hq1 hq2 hq3 hq4
     have HNN : Aside0 (RN = L.map (issueOf x)) := ⟨HN.out⟩
     have HB0 := Aside0.mk (Below.refl w3.heap.size w3)
     go_loopw [6, 28] (fun v6 v28 wr => ∃ k : Nat, k ≤ L.length ∧ v28 = .int .i64 (k : Int) ∧ OwnN wr w3.heap.size v6 ((L.take k).map (issueOf x)) ∧ Below w3.heap.size w3 wr ∧ (k = 0 → v6 = .slice none 0 0)) (fun _ v28 _ => L.length - (intOf v28).toNat)
     case atStart => exact ⟨0, Nat.zero_le _, rfl, ownN_nil _ _, HB0.out, fun _ => rfl⟩
     case round =>
      obtain ⟨k, hk, rfl, hO, hB, hz0⟩ := hrel
      have HG := Aside0.mk (And.intro hO hB)
      replace hz0 := Aside0.mk hz0
      clear HB0 hO hB
      by_cases hlt : k < L.length
      · have hd2 : decide ((k : Int) < (L.length : Int)) = true := decide_eq_true (by omega)
        have hki : k < (intsOf L).length := by rw [intsOf_len]; exact hlt
        obtain ⟨ad3, rfl, hcell⟩ := int_at H3.out.2 hki
        have hge : (intsOf L)[k]'hki = (L[k] : Int) := by simp [intsOf]
        rw [hge] at hcell
        replace hcell := cell_on HG.out.2 hcell
        obtain ⟨ha0, ha1, ha2, ha3, ha4⟩ := (H3.out.1.on HG.out.2).cells
        have HT := Aside0.mk (take_map (f := issueOf x) hlt)
        have hmk : ((L.take k).map (issueOf x)).length ≤ 8 := by rw [List.length_map, List.length_take]; omega
        have hlow := HG.out.2.size
        clear hge hki
        generalize (L.take k).map (issueOf x) = M at *
        generalize L[k] = j at *
        go_wp2_with (first | (at_builtin; refine wpList_append_own _ rfl (.tmp 32) (.tmp 37) 48 rfl w3.heap.size 37 i37 _ 10 104 Tryz.underlying48 HI.out.1 HI.out.2.1 HI.out.2.2.1 HI.out.2.2.2 rfl (by decide) _ _ _ rfl (ownN_on HG.out.1 (below_one _ _)) ⟨wr.heap.size, 0, none⟩ 1 1 (noteC (issueOf x j)) rfl rfl (note_new _ _) (note_one _) (by unfold maxLen; omega) (by omega) (by simp; omega) ?_; intro v' w5 hown5 hgr5 _; have HN5 := Aside0.mk (And.intro (ownN_snoc hown5) ((HG.out.2.alloc HG.out.2.size _).grown hgr5 (by simp; omega) fun q hq => ((HG.out.1).lt q hq).1)); clear hown5 hgr5))
        go_roundw
        case rel => exact ⟨k + 1, hlt, by go_num, by rw [HT.out]; exact HN5.out.1, HN5.out.2, fun h => absurd h (Nat.succ_ne_zero _)⟩
        case measure => simp [intOf]; omega
      · have hk' : k = L.length := by omega
        subst hk'
        have hd2 : decide ((L.length : Int) < (L.length : Int)) = false := decide_eq_false (by omega)
        go_wp2
        go_meet
        refine ⟨?_, fun h => hz0.out ?_, H3.out.1.on HG.out.2⟩
        · have ho := HG.out.1
          rw [List.take_length, ← HNN.out] at ho
          exact ownN_low ho H3.out.1.dx.below.size
        · rw [HNN.out, List.map_eq_nil_iff] at h
          rw [h]
          rfl
  case rest =>
   clear H1 hq0 hq1 hq2 hq3 hq4
   obtain ⟨hO, hnil, hN2⟩ := hcut
   have HG := Aside0.mk (And.intro hO hN2.dx.below)
   have H2 := Aside0.mk hN2
   obtain ⟨hq0, hq1, hq2, hq3, hq4⟩ := hN2.cells
   clear hN2
   cases hz : RN.isEmpty
   · obtain ⟨A6, c6, rfl⟩ := ownN_shape hO
     have hse : ((RN.length : Int) == 0) = false := by
      rw [beq_eq_false_iff_ne]
      intro h0
      have : RN = [] := List.eq_nil_of_length_eq_zero (by omega)
      rw [this] at hz
      cases hz
     clear hO hnil
     have HRR : Aside0 (nextL nm l x = RN) := ⟨by rw [HR.out, hz]; simp⟩
     clear hz HR
     go_wp2_with fail
     go_ret
     exact ⟨⟨_, rfl, by rw [HRR.out]; exact HG.out.1⟩, HG.out.2⟩
   · have e0 := List.isEmpty_iff.1 hz
     obtain rfl := hnil e0
     clear hO hnil
     have HE := Aside0.mk e0
     clear e0 hz
     cases en
     · have HRR : Aside0 (nextL nm l x = []) := ⟨by rw [HR.out, HE.out]; rfl⟩
       clear HR
       go_wp2_with (first | (go_at_call 64; refine (hen.out _ H2.out).mono ?_; rintro e w4 ⟨rfl, hb4, hk4⟩; have H4 := Aside0.mk (And.intro hb4 hk4); clear hb4 hk4))
       go_ret
       exact ⟨⟨_, rfl, by rw [HRR.out]; exact ownN_nil _ _⟩, H4.out.1⟩
     · have HRR : Aside0 (nextL nm l x = [] ++ [noteOf x 7]) := ⟨by rw [HR.out, HE.out]; rfl⟩
       clear HR
       go_wp2_with (first | (go_at_call 64; refine (hen.out _ H2.out).mono ?_; rintro e w4 ⟨rfl, hb4, hk4⟩; have H4 := Aside0.mk (And.intro hb4 hk4); have hx4 := row_cell (j := 0) (hk4 _ _ (by omega) H2.out.dx.xbox) rfl; clear hb4 hk4; have hlow4 := H4.out.1.size) | (at_builtin; refine wpList_append_own _ rfl (.tmp 46) (.tmp 50) 48 rfl w.heap.size 37 i37 _ 10 104 Tryz.underlying48 HI.out.1 HI.out.2.1 HI.out.2.2.1 HI.out.2.2.2 rfl (by decide) _ 0 ([] : List Value) rfl (ownN_nil _ _) ⟨w4.heap.size, 0, none⟩ 1 1 (noteC (noteOf x 7)) rfl rfl (note_new _ _) (note_one _) (by unfold maxLen; omega) (by omega) (by simp; omega) ?_; intro v' w5 hown5 hgr5 _; have HN5 := Aside0.mk (And.intro (ownN_snoc (L := []) hown5) ((H4.out.1.alloc H4.out.1.size _).grown hgr5 (by simp; omega) fun q hq => by cases hq)); clear hown5 hgr5))
       go_ret
       exact ⟨⟨_, rfl, by rw [HRR.out]; exact HN5.out.1⟩, HN5.out.2⟩
theorem next_calls (nm : ByteArray) (l : List Step) (A : Option Addr) (c : Nat) (x : Inst) (B : Option Addr) (cb : Nat) (w : World) (hnm : nm.size ≤ 140737488351232) (hxk : x.key.size ≤ 140737488351232) (hS : StepsAt w A l) (hb : ∀ s ∈ l, StepB s) (hn : l.length ≤ 9000000000000) (hc : l.length ≤ c) (hT : TabsAt w) (hB : Kd.C (Kd.int .i64) w B x.steps.length x.steps) (hxs : x.steps.length ≤ 17592186044416) :
 Calls Tryz.prog 25 #[.agg #[.string nm, .slice A l.length c], .agg #[.int .i64 x.id, .string x.key, .string x.name, .int .i64 x.version, .int .i64 x.phase, .int .i64 x.cause, .slice B x.steps.length cb, .int .i64 (x.freed 0), .int .i64 (x.freed 1), .int .i64 (x.freed 2), .int .i64 (x.freed 3)]] w fun e w' => (∃ v, e = .returned v ∧ OwnN w' w.heap.size v (nextL nm l x)) ∧ Below w.heap.size w w' := by
 by_cases h : sortL nm l x = 1
 · exact next_yes nm l A c x B cb w hnm hxk hS hb hn hc hT hB hxs h
 · exact next_no nm l A c x B cb w hnm hxk hS hb hn hc hT hB hxs h
end Go.Proofs.YtgjddnaidjbhlaaGreatDoor.Ph

/- The worlds of phase.Notes (P19). -/
namespace Go.Proofs.YtgjddnaidjbhlaaGreatDoor.Ph
open Go.RowKit Go.IntWalk Go.Proofs.YtgjddnaidjbhlaaGreatDoorW.PrintWords Go.Proofs.YtgjddnaidjbhlaaGreatDoorW.PrintLast Go.Proofs.YtgjddnaidjbhlaaGreatDoorW.PrintMore Go.Proofs.YtgjddnaidjbhlaaGreatDoor.PlName Go.Proofs.YtgjddnaidjbhlaaGreatDoor.Pl Go.Proofs.YtgjddnaidjbhlaaGreatDoor.LgMaps Go.Maps

/-- The worlds of Notes: a definition, an instance, a writer with its map, a variable that points to it. -/
structure No (w W : World) (nm : ByteArray) (l : List Step) (A : Option Addr) (c : Nat) (x : Inst) (B : Option Addr) (cb : Nat) (v : Value) (L : List Note) (n : Nat) (T : Int → Nat) : Prop where
 dx : Dx w W nm l A c x B cb
 wx : Wx w W (w.heap.size + 1 + 1 + 1) nm l A c x B cb v L (w.heap.size + 1 + 1) n T
 qx : Qx W (w.heap.size + 1 + 1 + 1) (w.heap.size + 1 + 1 + 1 + 1)
/-- Which blocks these are. -/
def Rw (w : World) (v : Value) (k : Nat) : Prop := (w.heap.size ≤ k ∧ k ≤ w.heap.size + 4) ∨ v.ownBlock = some k
section
variable {w W W2 : World} {nm : ByteArray} {l : List Step} {A : Option Addr} {c : Nat} {x : Inst} {B : Option Addr} {cb : Nat} {v v' : Value} {L L' : List Note} {n n' : Nat} {T T' : Int → Nat}
theorem No.move (h : No w W nm l A c x B cb v L n T) (hb : Below w.heap.size w W2) (hm : ∀ k, Rw w v k → W2.heap[k]? = W.heap[k]?) : No w W2 nm l A c x B cb v L n T := by
 refine ⟨⟨hb, (hm _ (.inl ⟨by omega, by omega⟩)).trans h.dx.dbox, (hm _ (.inl ⟨by omega, by omega⟩)).trans h.dx.xbox⟩, ⟨hb, (hm _ (.inl ⟨by omega, by omega⟩)).trans h.wx.box, h.wx.lo, h.wx.rd, own_move h.wx.own fun k hk => hm k (.inr hk), ?_, h.wx.mlo⟩, (hm _ (.inl ⟨by omega, by omega⟩)).trans h.qx⟩
 obtain ⟨D, ⟨es, cl, h1, h2⟩, hv⟩ := h.wx.told
 exact ⟨D, ⟨es, cl, (hm _ (.inl ⟨by omega, by omega⟩)).trans h1, h2⟩, hv⟩
theorem No.lt (h : No w W nm l A c x B cb v L n T) {k : Nat} (hk : Rw w v k) : k < W.heap.size := by
 rcases hk with hk | hk
 · have := (Array.getElem?_eq_some_iff.1 h.qx).1
   omega
 · exact (h.wx.own.lt k hk).2
theorem No.on (h : No w W nm l A c x B cb v L n T) (hb : Below W.heap.size W W2) : No w W2 nm l A c x B cb v L n T := h.move (on_ h.dx.below hb) fun k hk => hb.block k (h.lt hk)
theorem No.chg {Y : Nat → Prop} (h : No w W nm l A c x B cb v L n T) (hc : Chg Y W W2) (hY : ∀ k, Rw w v k → ¬ Y k) (hlo : ∀ k, Y k → w.heap.size ≤ k) : No w W2 nm l A c x B cb v L n T :=
 h.move (h.dx.below.trans (hc.below h.dx.below.size hlo)) fun k hk => hc.block k (h.lt hk) (hY k hk)
theorem No.put {q : Nat} {o o' : Obj} (h : No w W nm l A c x B cb v L n T) (hq : w.heap.size + 4 < q) (ho : W.heap[q]? = some o) (hno : o.isCells = false) : No w (W.putObj q o') nm l A c x B cb v L n T := by
 have hv : ∀ k, v.ownBlock = some k → k ≠ q := fun k hk e => by
  obtain ⟨cs, hc⟩ := own_typed h.wx.own k hk
  rw [e, ho] at hc
  injection hc with hc
  subst hc
  cases hno
 refine h.move (h.dx.below.trans ⟨rfl, rfl, rfl, by simp, fun k hk => World.putObj_heap_other (by omega)⟩) fun k hk => World.putObj_heap_other ?_
 rcases hk with hk | hk
 · omega
 · exact hv k hk
/-- A writer has written. -/
theorem No.next (h : No w W nm l A c x B cb v L n T) (hw : Wx w W2 (w.heap.size + 1 + 1 + 1) nm l A c x B cb v' L' (w.heap.size + 1 + 1) n' T') (hf : Fr W W2 (w.heap.size + 1 + 1 + 1) (w.heap.size + 1 + 1) v v') : No w W2 nm l A c x B cb v' L' n' T' := by
 have hv : ∀ {k : Nat} {a : Array Value} {t : Nat}, W.heap[k]? = some (.cells a t (0, 0)) → t ≠ 37 → v.ownBlock ≠ some k := fun {k a t} hr ht e => by
  obtain ⟨cs, hc⟩ := own_typed h.wx.own k e
  rw [hr] at hc
  injection hc with hc
  injection hc with _ hc
  exact ht hc
 exact ⟨⟨hw.below, hf.row h.dx.dbox (by omega) (by omega) (hv h.dx.dbox (by decide)), hf.row h.dx.xbox (by omega) (by omega) (hv h.dx.xbox (by decide))⟩, hw, h.qx.fr h.wx hf⟩
/-- What lies elsewhere stays. -/
theorem No.far (h : No w W nm l A c x B cb v L n T) (hf : Fr W W2 (w.heap.size + 1 + 1 + 1) (w.heap.size + 1 + 1) v v') {k : Nat} {o : Obj} (ho : W.heap[k]? = some o) (hk : w.heap.size + 4 < k) (hno : v.ownBlock ≠ some k) : W2.heap[k]? = some o :=
 hf.row ho (by omega) (by omega) hno
theorem No.notNote (h : No w W nm l A c x B cb v L n T) {k : Nat} {o : Obj} (ho : W.heap[k]? = some o) (hn : ∀ a, o ≠ .cells a 37 (0, 0)) : v.ownBlock ≠ some k := fun e => by
 obtain ⟨cs, hc⟩ := own_typed h.wx.own k e
 rw [ho] at hc
 injection hc with hc
 exact hn cs hc
theorem No.mono (h : No w W nm l A c x B cb v L n T) (hn : n ≤ n') : No w W nm l A c x B cb v L n' T := ⟨h.dx, h.wx.mono hn, h.qx⟩
end
/-- What a writer changes, as a change. -/
theorem Fr.chg {W W' w : World} {p mb : Nat} {v v' : Value} (h : Fr W W' p mb v v') (hb : Below w.heap.size w W) (hb' : Below w.heap.size w W') : Chg (fun k => k = p ∨ k = mb ∨ v.ownBlock = some k) W W' :=
 ⟨hb'.os.trans hb.os.symm, hb'.tape.trans hb.tape.symm, hb'.output.trans hb.output.symm, h.size, fun k hk hx => (h.old k hk (fun e => hx (.inl e)) (fun e => hx (.inr (.inl e))) (fun e => hx (.inr (.inr e)))).1⟩
theorem alloc_n (w : World) (o : Obj) : (w.alloc o).heap.size = w.heap.size + 1 := by
 show (w.heap.push _).size = _
 simp
theorem No.start (nm : ByteArray) (l : List Step) (A : Option Addr) (c : Nat) (x : Inst) (B : Option Addr) (cb : Nat) (w : World) (hB : Kd.C (Kd.int .i64) w B x.steps.length x.steps) :
 No w (((((w.alloc (.cells #[.string nm, .slice A l.length c] 24)).alloc (.cells #[.int .i64 x.id, .string x.key, .string x.name, .int .i64 x.version, .int .i64 x.phase, .int .i64 x.cause, .slice B x.steps.length cb, .int .i64 (x.freed 0), .int .i64 (x.freed 1), .int .i64 (x.freed 2), .int .i64 (x.freed 3)] 28)).alloc (.map #[] 0)).alloc (.cells #[.string nm, .slice A l.length c, .int .i64 x.id, .string x.key, .string x.name, .int .i64 x.version, .int .i64 x.phase, .int .i64 x.cause, .slice B x.steps.length cb, .int .i64 (x.freed 0), .int .i64 (x.freed 1), .int .i64 (x.freed 2), .int .i64 (x.freed 3), .slice none 0 0, .map (some (w.heap.size + 1 + 1))] 82)).alloc (.cells #[.pointer (some ⟨w.heap.size + 1 + 1 + 1, 0, none⟩)] 79)) nm l A c x B cb (.slice none 0 0) [] 0 (fun _ => 0) := by
 have h2 := Dx.start nm l A c x B cb w
 have s1 := alloc_n w (.cells #[.string nm, .slice A l.length c] 24)
 have s2 := alloc_n (w.alloc (.cells #[.string nm, .slice A l.length c] 24)) (.cells #[.int .i64 x.id, .string x.key, .string x.name, .int .i64 x.version, .int .i64 x.phase, .int .i64 x.cause, .slice B x.steps.length cb, .int .i64 (x.freed 0), .int .i64 (x.freed 1), .int .i64 (x.freed 2), .int .i64 (x.freed 3)] 28)
 generalize (w.alloc (.cells #[.string nm, .slice A l.length c] 24)).alloc (.cells #[.int .i64 x.id, .string x.key, .string x.name, .int .i64 x.version, .int .i64 x.phase, .int .i64 x.cause, .slice B x.steps.length cb, .int .i64 (x.freed 0), .int .i64 (x.freed 1), .int .i64 (x.freed 2), .int .i64 (x.freed 3)] 28) = w2 at *
 have s3 := alloc_n w2 (.map #[] 0)
 have b3 := below_one w2 (.map #[] 0)
 have m3 : ToldM (w2.alloc (.map #[] 0)) (w.heap.size + 1 + 1) 0 (fun _ => 0) := by
  have := World.ownsMap_made w2 Tryz.prog 3 raw
  rw [s2, s1] at this
  exact ⟨_, this, fun k => ⟨rfl, Nat.le_refl _⟩⟩
 generalize w2.alloc (.map #[] 0) = w3 at *
 have s4 := alloc_n w3 (.cells #[.string nm, .slice A l.length c, .int .i64 x.id, .string x.key, .string x.name, .int .i64 x.version, .int .i64 x.phase, .int .i64 x.cause, .slice B x.steps.length cb, .int .i64 (x.freed 0), .int .i64 (x.freed 1), .int .i64 (x.freed 2), .int .i64 (x.freed 3), .slice none 0 0, .map (some (w.heap.size + 1 + 1))] 82)
 have b4 := below_one w3 (.cells #[.string nm, .slice A l.length c, .int .i64 x.id, .string x.key, .string x.name, .int .i64 x.version, .int .i64 x.phase, .int .i64 x.cause, .slice B x.steps.length cb, .int .i64 (x.freed 0), .int .i64 (x.freed 1), .int .i64 (x.freed 2), .int .i64 (x.freed 3), .slice none 0 0, .map (some (w.heap.size + 1 + 1))] 82)
 have r4 := alloc1 w3 (.cells #[.string nm, .slice A l.length c, .int .i64 x.id, .string x.key, .string x.name, .int .i64 x.version, .int .i64 x.phase, .int .i64 x.cause, .slice B x.steps.length cb, .int .i64 (x.freed 0), .int .i64 (x.freed 1), .int .i64 (x.freed 2), .int .i64 (x.freed 3), .slice none 0 0, .map (some (w.heap.size + 1 + 1))] 82)
 generalize w3.alloc (.cells #[.string nm, .slice A l.length c, .int .i64 x.id, .string x.key, .string x.name, .int .i64 x.version, .int .i64 x.phase, .int .i64 x.cause, .slice B x.steps.length cb, .int .i64 (x.freed 0), .int .i64 (x.freed 1), .int .i64 (x.freed 2), .int .i64 (x.freed 3), .slice none 0 0, .map (some (w.heap.size + 1 + 1))] 82) = w4 at *
 have b5 := below_one w4 (.cells #[.pointer (some ⟨w.heap.size + 1 + 1 + 1, 0, none⟩)] 79)
 have r5 := alloc1 w4 (.cells #[.pointer (some ⟨w.heap.size + 1 + 1 + 1, 0, none⟩)] 79)
 rw [s4, s3, s2, s1] at r5
 rw [s3, s2, s1] at r4
 have d := ((h2.on b3).on b4).on b5
 exact ⟨d, ⟨d.below, row_on b5 r4, by omega, hB, ownN_nil _ _, (m3.on b4).on b5, by omega⟩, r5⟩
/-- Behind the order has been collected: its variable, and the mark of what is deferred. -/
structure Nq (w W : World) (nm : ByteArray) (l : List Step) (A : Option Addr) (c : Nat) (x : Inst) (B : Option Addr) (cb : Nat) (v : Value) (L : List Note) (n : Nat) (T : Int → Nat) (bo : Nat) (Ao : Option Addr) (ca : Nat) (o : List Nat) (D : Nat) : Prop where
 no : No w W nm l A c x B cb v L n T
 ob : W.heap[bo]? = some (.cells #[.slice Ao o.length ca] 25 (0, 0))
 od : Od W (.slice Ao o.length ca) o
 dd : W.heap[D]? = some (.deferred (some []))
 lo : w.heap.size + 4 < bo ∧ w.heap.size + 4 < D
 olo : ∀ k, (Value.slice Ao o.length ca).ownBlock = some k → w.heap.size + 4 < k
section
variable {w W W2 : World} {nm : ByteArray} {l : List Step} {A : Option Addr} {c : Nat} {x : Inst} {B : Option Addr} {cb : Nat} {v v' : Value} {L L' : List Note} {n n' bo ca D : Nat} {T T' : Int → Nat} {Ao : Option Addr} {o : List Nat}
theorem Nq.on (h : Nq w W nm l A c x B cb v L n T bo Ao ca o D) (hb : Below W.heap.size W W2) : Nq w W2 nm l A c x B cb v L n T bo Ao ca o D := ⟨h.no.on hb, row_on hb h.ob, h.od.on hb, row_on hb h.dd, h.lo, h.olo⟩
theorem Nq.next (h : Nq w W nm l A c x B cb v L n T bo Ao ca o D) (hw : Wx w W2 (w.heap.size + 1 + 1 + 1) nm l A c x B cb v' L' (w.heap.size + 1 + 1) n' T') (hf : Fr W W2 (w.heap.size + 1 + 1 + 1) (w.heap.size + 1 + 1) v v') : Nq w W2 nm l A c x B cb v' L' n' T' bo Ao ca o D :=
 ⟨h.no.next hw hf, h.no.far hf h.ob h.lo.1 (h.no.notNote h.ob fun a e => by injection e with _ e; exact absurd e (by decide)), h.od.fr h.no.wx hf, h.no.far hf h.dd h.lo.2 (h.no.notNote h.dd fun a e => by cases e), h.lo, h.olo⟩
theorem Nq.cells (h : Nq w W nm l A c x B cb v L n T bo Ao ca o D) : W.cell? ⟨w.heap.size + 1 + 1 + 1 + 1, 0, none⟩ = some (.pointer (some ⟨w.heap.size + 1 + 1 + 1, 0, none⟩)) ∧ W.cell? ⟨bo, 0, none⟩ = some (.slice Ao o.length ca) ∧ W.cell? ⟨w.heap.size + 1, 5, none⟩ = some (.int .i64 x.cause) ∧ W.cell? ⟨w.heap.size + 1, 6, none⟩ = some (.slice B x.steps.length cb) ∧ W.cell? ⟨w.heap.size + 1 + 1 + 1, 14, none⟩ = some (.map (some (w.heap.size + 1 + 1))) := ⟨h.no.qx.cell, row_cell h.ob rfl, row_cell h.no.dx.xbox rfl, row_cell h.no.dx.xbox rfl, row_cell h.no.wx.box rfl⟩
end
/-- In the range backwards. -/
structure Nb (w W : World) (nm : ByteArray) (l : List Step) (A : Option Addr) (c : Nat) (x : Inst) (B : Option Addr) (cb : Nat) (v : Value) (L : List Note) (n : Nat) (T : Int → Nat) (D : Nat) (Y : Nat → Prop) : Prop where
 no : No w W nm l A c x B cb v L n T
 dd : W.heap[D]? = some (.deferred (some []))
 lo : w.heap.size + 4 < D
 off : ∀ k, Rw w v k → ¬ Y k
 offD : ¬ Y D
 yb : ∀ k, Y k → w.heap.size ≤ k ∧ k < W.heap.size
section
variable {w W W2 : World} {nm : ByteArray} {l : List Step} {A : Option Addr} {c : Nat} {x : Inst} {B : Option Addr} {cb : Nat} {v v' : Value} {L L' : List Note} {n n' D : Nat} {T T' : Int → Nat} {Y Y' : Nat → Prop}
theorem Nb.chg (h : Nb w W nm l A c x B cb v L n T D Y) (hc : Chg Y W W2) : Nb w W2 nm l A c x B cb v L n T D (More Y W W2) := by
 have hd := (Array.getElem?_eq_some_iff.1 h.dd).1
 have hs := hc.size
 have hw := h.no.dx.below.size
 refine ⟨h.no.chg hc h.off fun k hk => (h.yb k hk).1, hc.row h.dd h.offD, h.lo, fun k hk e => ?_, fun e => ?_, fun k hk => ?_⟩
 · have := h.no.lt hk
   rcases e with e | e
   · exact h.off k hk e
   · omega
 · rcases e with e | e
   · exact h.offD e
   · omega
 · rcases hk with hk | hk
   · have := h.yb k hk
     omega
   · omega
theorem Nb.mono (h : Nb w W nm l A c x B cb v L n T D Y) (hy : ∀ k, Y' k → Y k) : Nb w W nm l A c x B cb v L n T D Y' := ⟨h.no, h.dd, h.lo, fun k hk e => h.off k hk (hy k e), fun e => h.offD (hy _ e), fun k hk => h.yb k (hy k hk)⟩
theorem Nb.put {q : Nat} {o o' : Obj} (h : Nb w W nm l A c x B cb v L n T D Y) (hq : D < q) (ho : W.heap[q]? = some o) (hno : o.isCells = false) : Nb w (W.putObj q o') nm l A c x B cb v L n T D Y :=
 ⟨h.no.put (by have := h.lo; omega) ho hno, (World.putObj_heap_other (by omega)).trans h.dd, h.lo, h.off, h.offD, fun k hk => by have := h.yb k hk; simp; omega⟩
theorem Nb.next (h : Nb w W nm l A c x B cb v L n T D Y) (hw : Wx w W2 (w.heap.size + 1 + 1 + 1) nm l A c x B cb v' L' (w.heap.size + 1 + 1) n' T') (hf : Fr W W2 (w.heap.size + 1 + 1 + 1) (w.heap.size + 1 + 1) v v') : Nb w W2 nm l A c x B cb v' L' n' T' D Y ∧ Keep Y W W2 ∧ ∀ B0, KeepsFrom B0 W W2 ∨ B0 ≤ w.heap.size + 1 + 1 := by
 have hyr : ∀ k, Y k → k ≠ w.heap.size + 1 + 1 + 1 ∧ k ≠ w.heap.size + 1 + 1 ∧ v.ownBlock ≠ some k := fun k hk => ⟨fun e => h.off k (.inl (by omega)) hk, fun e => h.off k (.inl (by omega)) hk, fun e => h.off k (.inr e) hk⟩
 refine ⟨⟨h.no.next hw hf, h.no.far hf h.dd h.lo (h.no.notNote h.dd fun a e => by cases e), h.lo, fun k hk e => ?_, h.offD, fun k hk => ⟨(h.yb k hk).1, Nat.lt_of_lt_of_le (h.yb k hk).2 hf.size⟩⟩, ⟨hf.size, fun k hk => ?_⟩, fun B0 => ?_⟩
 · rcases hk with hk | hk
   · exact h.off k (.inl hk) e
   · obtain ⟨h1, h2, h3⟩ := hyr k e
     exact (hf.old k (h.yb k e).2 h1 h2 h3).2 hk
 · obtain ⟨h1, h2, h3⟩ := hyr k hk
   exact (hf.old k (h.yb k hk).2 h1 h2 h3).1
 · by_cases hB : B0 ≤ w.heap.size + 1 + 1
   · exact .inr hB
   · refine .inl ⟨hf.size, fun k o hk ho hno => ?_⟩
     refine hf.row ho ?_ (by omega) (h.no.notNote ho fun a e => by subst e; cases hno)
     intro e
     rw [e, h.no.wx.box] at ho
     injection ho with ho
     subst ho
     cases hno
end
/-- Behind both ranges. -/
structure Ne (w W : World) (nm : ByteArray) (l : List Step) (A : Option Addr) (c : Nat) (x : Inst) (B : Option Addr) (cb : Nat) (v : Value) (L : List Note) (n : Nat) (T : Int → Nat) (D D2 : Nat) : Prop where
 no : No w W nm l A c x B cb v L n T
 dd : W.heap[D]? = some (.deferred (some []))
 dd2 : W.heap[D2]? = some (.deferred (some []))
 lo : w.heap.size + 4 < D ∧ D < D2
section
variable {w W W2 : World} {nm : ByteArray} {l : List Step} {A : Option Addr} {c : Nat} {x : Inst} {B : Option Addr} {cb : Nat} {v v' : Value} {L L' : List Note} {n n' D D2 : Nat} {T T' : Int → Nat}
theorem Ne.on (h : Ne w W nm l A c x B cb v L n T D D2) (hb : Below W.heap.size W W2) : Ne w W2 nm l A c x B cb v L n T D D2 := ⟨h.no.on hb, row_on hb h.dd, row_on hb h.dd2, h.lo⟩
theorem Ne.next (h : Ne w W nm l A c x B cb v L n T D D2) (hw : Wx w W2 (w.heap.size + 1 + 1 + 1) nm l A c x B cb v' L' (w.heap.size + 1 + 1) n' T') (hf : Fr W W2 (w.heap.size + 1 + 1 + 1) (w.heap.size + 1 + 1) v v') : Ne w W2 nm l A c x B cb v' L' n' T' D D2 :=
 ⟨h.no.next hw hf, h.no.far hf h.dd h.lo.1 (h.no.notNote h.dd fun a e => by cases e), h.no.far hf h.dd2 (by have := h.lo; omega) (h.no.notNote h.dd2 fun a e => by cases e), h.lo⟩
theorem Ne.cells (h : Ne w W nm l A c x B cb v L n T D D2) : W.cell? ⟨w.heap.size + 1 + 1 + 1 + 1, 0, none⟩ = some (.pointer (some ⟨w.heap.size + 1 + 1 + 1, 0, none⟩)) ∧ W.cell? ⟨w.heap.size + 1, 0, none⟩ = some (.int .i64 x.id) ∧ W.cell? ⟨w.heap.size + 1, 7, none⟩ = some (.int .i64 (x.freed 0)) ∧ W.cell? ⟨w.heap.size + 1, 8, none⟩ = some (.int .i64 (x.freed 1)) ∧ W.cell? ⟨w.heap.size + 1, 9, none⟩ = some (.int .i64 (x.freed 2)) ∧ W.cell? ⟨w.heap.size + 1, 10, none⟩ = some (.int .i64 (x.freed 3)) ∧ W.cell? ⟨w.heap.size + 1 + 1 + 1, 13, none⟩ = some v := ⟨h.no.qx.cell, row_cell h.no.dx.xbox rfl, row_cell h.no.dx.xbox rfl, row_cell h.no.dx.xbox rfl, row_cell h.no.dx.xbox rfl, row_cell h.no.dx.xbox rfl, row_cell h.no.wx.box rfl⟩
end
theorem Ne.leave {nm : ByteArray} {l : List Step} {A : Option Addr} {c : Nat} {x : Inst} {B : Option Addr} {cb : Nat} {w W : World} {v : Value} {L : List Note} {n D D2 : Nat} {T : Int → Nat} (h : Ne w W nm l A c x B cb v L n T D D2) (o o' : Obj) :
 (W.putObj D2 o).heap[D]? = some (.deferred (some [])) ∧ OwnN ((W.putObj D2 o).putObj D o') w.heap.size v L ∧ Below w.heap.size w ((W.putObj D2 o).putObj D o') := by
 have hl := h.lo
 have h1 : (W.putObj D2 o).heap[D]? = some (.deferred (some [])) := (World.putObj_heap_other (by omega)).trans h.dd
 have h2 := (h.no.put (o' := o) (by omega) h.dd2 rfl).put (o' := o') (by omega) h1 rfl
 exact ⟨h1, h2.wx.own, h2.dx.below⟩
theorem someL_in {l : List Step} {x : Inst} {s : Int} (h : someL l x 0 [s] = true) (hx : x.steps.length = l.length) : s ∈ x.steps := by
 unfold someL at h
 obtain ⟨i, hi, hp⟩ := List.any_eq_true.1 h
 rw [List.mem_range] at hi
 rw [Bool.and_eq_true] at hp
 have h2 := hp.2
 unfold inS at h2
 rw [List.contains_iff_mem, List.mem_singleton] at h2
 have hix : i < x.steps.length := by omega
 rw [← st_get hix] at h2
 exact h2 ▸ List.getElem_mem hix
/-- What turned it back stands among the states. -/
theorem cause_in {l : List Step} {x : Inst} (h : phaseL l x = true) (hx : x.steps.length = l.length) : (x.cause = 3 → (3 : Int) ∈ x.steps) ∧ (x.cause = 4 → (4 : Int) ∈ x.steps) := by
 have ht : x.cause ≠ 0 → turnedL l x = true := fun hc => by
  unfold phaseL fwd at h
  rw [beq_eq_false_iff_ne.2 hc] at h
  split at h
  · simp at h
  split at h
  · simp at h
  split at h
  · simp at h
  split at h
  · simp at h
  split at h
  · exact h
  split at h
  · exact (Bool.and_eq_true_iff.1 h).1
  · cases h
 refine ⟨fun hc => ?_, fun hc => ?_⟩
 · have h1 := ht (by omega)
   unfold turnedL at h1
   split at h1
   · cases h1
   split at h1
   · cases h1
   split at h1
   · cases h1
   split at h1
   · cases h1
   rw [hc, if_pos (by rfl)] at h1
   exact someL_in h1 hx
 · have h1 := ht (by omega)
   unfold turnedL at h1
   split at h1
   · cases h1
   split at h1
   · cases h1
   split at h1
   · cases h1
   split at h1
   · cases h1
   rw [hc, if_neg (by decide), if_pos (by rfl)] at h1
   exact someL_in h1 hx
end Go.Proofs.YtgjddnaidjbhlaaGreatDoor.Ph

/- phase: mark of a view in a box (P19): walked by hand. -/
namespace Go.Proofs.YtgjddnaidjbhlaaGreatDoor.Ph
open Go.RowKit Go.IntWalk Go.Proofs.YtgjddnaidjbhlaaGreatDoorW.PrintWords Go.Proofs.YtgjddnaidjbhlaaGreatDoorW.PrintLast Go.Proofs.YtgjddnaidjbhlaaGreatDoorW.PrintMore Go.Proofs.YtgjddnaidjbhlaaGreatDoor.PlName Go.Proofs.YtgjddnaidjbhlaaGreatDoor.Pl
attribute [local go_sem ↓] Go.wp_at_zero Go.wp_at_succ

theorem Bx.two {nm : ByteArray} {l : List Step} {A : Option Addr} {c : Nat} {x : Inst} {B : Option Addr} {cb : Nat} {w W : World} {p : Nat} (h : Bx w W p nm l A c x B cb) : W.cell? ⟨p, 0, none⟩ = some (.string nm) ∧ W.cell? ⟨p, 1, none⟩ = some (.slice A l.length c) ∧ W.cell? ⟨p, 6, none⟩ = some (.int .i64 x.phase) ∧ W.cell? ⟨p, 8, none⟩ = some (.slice B x.steps.length cb) := ⟨row_cell h.box rfl, row_cell h.box rfl, row_cell h.box rfl, row_cell h.box rfl⟩
theorem OnRes.ite {w W : World} {p : Nat} {nm : ByteArray} {l : List Step} {A : Option Addr} {c : Nat} {x : Inst} {B : Option Addr} {cb : Nat} {o : Option Inst} (b : Bool) (ho : o = if b = true then some x else none) (h : Bx w W p nm l A c x B cb) : OnRes w W p nm l A c o (.returned (.bool b)) := by
 cases b
 · exact OnRes.no ho h.below
 · exact OnRes.yes ho h
theorem own_set {w0 W : World} {v : Value} {L : List Nat} (h : Pl.Own w0 W v L) {a : Addr} {u : Value} (hne : ∀ k, v.ownBlock = some k → k ≠ a.block) : Pl.Own w0 (W.setCell a u) v L := by
 refine ⟨h.1, ?_⟩
 rcases h.2 with hn | ⟨g, cap, cur, e, h1, h2, rest⟩
 · exact .inl hn
 · exact .inr ⟨g, cap, cur, e, h1, row_setCell_ne h2 _ _ (hne g (by rw [e]; rfl)), rest⟩
theorem own_stays {w0 W W2 : World} {v : Value} {L : List Nat} (h : Pl.Own w0 W v L) (hb : Below W.heap.size W W2) : Pl.Own w0 W2 v L := by
 refine ⟨h.1, ?_⟩
 rcases h.2 with hn | ⟨g, cap, cur, e, h1, h2, rest⟩
 · exact .inl hn
 · exact .inr ⟨g, cap, cur, e, h1, row_on hb h2, rest⟩
set_option maxHeartbeats 16000000 in
set_option maxRecDepth 100000 in
theorem mark_out {nm : ByteArray} {l : List Step} {A : Option Addr} {c : Nat} {x : Inst} {B : Option Addr} {cb : Nat} {w W : World} {p : Nat} (kind inst : Int) (i : Nat) (s part cause : Int) (key name : ByteArray) (version : Int) (text : ByteArray) (h : Bx w W p nm l A c x B cb) (hx8 : x.steps.length ≤ 8) (hout : ¬ i < x.steps.length) :
 Calls Tryz.prog 129 #[.pointer (some ⟨p, 0, none⟩), .agg #[.int .i64 kind, .int .i64 inst, .int .i64 (i : Int), .int .i64 s, .int .i64 part, .int .i64 cause, .string key, .string name, .int .i64 version, .string text]] W fun e W' => OnRes w W' p nm l A c (markX nm l x i s) e := by
 have HB := Aside0.mk (Bn.start h ⟨kind, inst, (i : Int), s, part, cause, key, name, version, text⟩)
 have hd1 : decide ((x.steps.length : Int) ≤ (i : Int)) = true := decide_eq_true (by omega)
 have HF : Aside0 (markX nm l x i s = none) := ⟨by unfold markX; rw [decide_eq_true (p := (i : Int) ≥ (x.steps.length : Int)) (by omega), if_pos rfl]⟩
 clear h
 generalize markX nm l x i s = rr at *
 go_enter Tryz.func129, Tryz.ntmps129
 go_wp2
 generalize W.heap.size = g at *
 generalize World.alloc W _ = w0 at *
 have hn2 : w0.cell? ⟨g, 2, none⟩ = some (.int .i64 (i : Int)) := row_cell HB.out.nbox rfl
 obtain ⟨ha0, ha1, ha6, ha8⟩ := HB.out.bx.two
 go_quiet (fail)
 go_wp2
 go_ret
 exact OnRes.no HF.out (HB.out.bx.on (bdn (Below.refl _ _))).below
set_option maxHeartbeats 16000000 in
set_option maxRecDepth 100000 in
theorem mark_in {nm : ByteArray} {l : List Step} {A : Option Addr} {c : Nat} {x : Inst} {B : Option Addr} {cb : Nat} {w W : World} {p : Nat} (kind inst : Int) (i : Nat) (s part cause : Int) (key name : ByteArray) (version : Int) (text : ByteArray) (h : Bx w W p nm l A c x B cb) (hnm : nm.size ≤ 140737488351232) (hS : StepsAt w A l) (hb : ∀ s ∈ l, StepB s) (hl8 : l.length ≤ 8) (hc : l.length ≤ c) (hT : TabsAt w) (hx : x.steps.length = l.length) (hi : i < l.length) (hs : 2 ≤ s ∧ s ≤ 5) :
 Calls Tryz.prog 129 #[.pointer (some ⟨p, 0, none⟩), .agg #[.int .i64 kind, .int .i64 inst, .int .i64 (i : Int), .int .i64 s, .int .i64 part, .int .i64 cause, .string key, .string name, .int .i64 version, .string text]] W fun e W' => OnRes w W' p nm l A c (markX nm l x i s) e := by
 have HB := Aside0.mk (Bn.start h ⟨kind, inst, (i : Int), s, part, cause, key, name, version, text⟩)
 have HA := Aside0.mk hS
 have hun := Aside0.mk (fun U (h : Bx w U p nm l A c x B cb) => undo_at nm l A c B cb x.steps U hnm (hS.below h.below) hb (by omega) hc (tabs_on hT h.below) h.reads (by omega))
 have HSH := Aside0.mk (undoL_short nm l x.steps hl8)
 have hcon := Aside0.mk (fun U W0 v (h : Pl.Own W0 U v (undoL nm l x.steps)) => has_calls' h (by have := HSH.out; omega) (i : Int))
 have hix : i < x.steps.length := by omega
 have hd1 : decide ((x.steps.length : Int) ≤ (i : Int)) = false := decide_eq_false (by omega)
 have hd2 : decide ((i : Int) < (x.steps.length : Int)) = true := decide_eq_true (by omega)
 have HF : Aside0 (markX nm l x i s = if s = 5 then (if (x.phase == 5 && hasI (undoL nm l x.steps) i) = true then some (setSt x i 5) else none)
  else if s = 2 then (if (stOf x.steps i == 1) = true then some (if (kindOf l i == 2 || (x.phase == 1 && (((kindsL l 2 : Nat) : Int) == 0 && allL l (setSt x i 2) 1 [2]))) = true then phX (setSt x i 2) 3 else setSt x i 2) else none)
  else if x.phase = 1 ∨ x.phase = 2 then (if (stOf x.steps i == 1) = true then some (phcX (setSt x i s) 5 s) else none)
  else if x.phase = 5 then (if (stOf x.steps i == 1) = true then some (setSt x i s) else none)
  else none) := ⟨by unfold markX; rw [decide_eq_false (p := (i : Int) ≥ (x.steps.length : Int)) (by omega), if_neg (by decide)]; rfl⟩
 have HXX := Aside0.mk (And.intro hx hl8)
 clear h hnm hS hb hc hT hx hl8
 generalize markX nm l x i s = rr at *
 go_enter Tryz.func129, Tryz.ntmps129
 go_wp2
 generalize W.heap.size = g at *
 generalize World.alloc W _ = w0 at *
 have hn2 : w0.cell? ⟨g, 2, none⟩ = some (.int .i64 (i : Int)) := row_cell HB.out.nbox rfl
 have hn3 : w0.cell? ⟨g, 3, none⟩ = some (.int .i64 s) := row_cell HB.out.nbox rfl
 obtain ⟨ha0, ha1, ha6, ha8⟩ := HB.out.bx.two
 obtain ⟨gb, cur, hBe, hne, hlo, hrow, hcell, hset⟩ := HB.out.bx.row hix
 subst hBe
 have HSET := Aside0.mk (And.intro hrow hset)
 have hgb : gb ≠ g := fun e => by
  subst e
  rw [HB.out.nbox] at hrow
  cases hrow
 clear hset hrow
 go_quiet (fail)
 go_wp2_with fail
 go_quiet (fail)
 go_wp2_with fail
 go_cut [6] (fun v6 wc => ∃ U : World, (Pl.Own U wc v6 (undoL nm l x.steps) ∧ gb < U.heap.size) ∧ Bn w wc p nm l A c x (some ⟨gb, 0, none⟩) cb g ⟨kind, inst, (i : Int), s, part, cause, key, name, version, text⟩)
 case first =>
  go_region_held3 (fun w' => w'.cell? ⟨p, 0, none⟩ = some (.string nm) ∧ w'.cell? ⟨p, 1, none⟩ = some (.slice A l.length c) ∧ w'.cell? ⟨p, 8, none⟩ = some (.slice (some ⟨gb, 0, none⟩) x.steps.length cb)) (first | go_keep | exact ⟨H3.out.2.bx.two.1, H3.out.2.bx.two.2.1, H3.out.2.bx.two.2.2.2⟩) (first | (go_at_call 65; refine (hun.out _ (HB.out.bx.on (bdn (Below.refl _ _)))).mono ?_; rintro e w3 ⟨⟨v3, rfl, ho3⟩, hb3⟩; have H3 := Aside0.mk (And.intro ho3 ((HB.out.on (bdn (Below.refl _ _)) : Bn w _ p nm l A c x (some ⟨gb, 0, none⟩) cb g ⟨kind, inst, (i : Int), s, part, cause, key, name, version, text⟩).on hb3)); clear ho3 hb3))
  all_goals
   go_wp2_with fail
   go_meet
   exact ⟨_, ⟨by first | exact H3.out.1 | exact own_stays H3.out.1 (below_drew (Below.refl _ _)), (Array.getElem?_eq_some_iff.1 HSET.out.1).1⟩, by first | exact H3.out.2 | exact H3.out.2.on (below_drew (Below.refl _ _))⟩
 case rest =>
  obtain ⟨U, hO, hN⟩ := hcut
  have HO := Aside0.mk hO
  have HN := Aside0.mk hN
  clear hO HB HSET hun ha0 ha1 ha6 ha8 hn2 hn3 hcell
  have hn2 : wc.cell? ⟨g, 2, none⟩ = some (.int .i64 (i : Int)) := row_cell hN.nbox rfl
  have hn3 : wc.cell? ⟨g, 3, none⟩ = some (.int .i64 s) := row_cell hN.nbox rfl
  obtain ⟨ha0, ha1, ha6, ha8⟩ := hN.bx.two
  obtain ⟨gb', cur', hBe, _, _, hrow, hcell, hset⟩ := hN.bx.row hix
  cases hBe
  have hfz := free_of_row (j := i) hrow
  have HSET := Aside0.mk (hset s)
  clear hN hset hrow
  go_wp2_with fail
  go_region_held3 (fun w' => w'.cell? ⟨p, 8, none⟩ = some (.slice (some ⟨gb, 0, none⟩) x.steps.length cb) ∧ w'.cell? ⟨g, 2, none⟩ = some (.int .i64 (i : Int)) ∧ w'.cell? ⟨g, 3, none⟩ = some (.int .i64 s)) (first | go_keep) (first | fail)
  go_upto_region 6 with fail
  have HS : Aside0 (Bn w (wc.setCell ⟨gb, i, none⟩ (.int .i64 s)).drew p nm l A c (setSt x i s) (some ⟨gb, 0, none⟩) cb g ⟨kind, inst, (i : Int), s, part, cause, key, name, version, text⟩) := ⟨Bn.drew ⟨HSET.out, row_setCell_ne HN.out.nbox _ _ (Ne.symm hgb), HN.out.ne⟩⟩
  have HO2 : Aside0 (Pl.Own U (wc.setCell ⟨gb, i, none⟩ (.int .i64 s)).drew u6 (undoL nm l x.steps)) := ⟨own_stays (own_set HO.out.1 fun k hk => by
   have h1 := (World.ownsRow.lt HO.out.1 k hk).1
   have h2 := HO.out.2
   have : k ≠ gb := by omega
   exact this) (below_drew (Below.refl _ _))⟩
  clear HSET HN HO hcell hfz ha0 ha1 ha6 ha8 hn2 hn3 hd1 hd2
  generalize World.drew _ = w5 at *
  have hn2 : w5.cell? ⟨g, 2, none⟩ = some (.int .i64 (i : Int)) := row_cell HS.out.nbox rfl
  have hn3 : w5.cell? ⟨g, 3, none⟩ = some (.int .i64 s) := row_cell HS.out.nbox rfl
  have hp0 : w5.cell? ⟨p, 0, none⟩ = some (.string nm) := row_cell HS.out.bx.box rfl
  have hp1 : w5.cell? ⟨p, 1, none⟩ = some (.slice A l.length c) := row_cell HS.out.bx.box rfl
  have hp6 : w5.cell? ⟨p, 6, none⟩ = some (.int .i64 x.phase) := row_cell HS.out.bx.box rfl
  have hp7 : w5.cell? ⟨p, 7, none⟩ = some (.int .i64 x.cause) := row_cell HS.out.bx.box rfl
  have hf6 := HS.out.bx.free 6
  have hf7 := HS.out.bx.free 7
  have hss : s = 5 ∨ s = 2 ∨ s = 3 ∨ s = 4 := by omega
  clear hs
  generalize undoL nm l x.steps = L at *
  rcases hss with rfl | rfl | rfl | rfl
  · have HF5 : Aside0 (rr = if (x.phase == 5 && hasI L i) = true then some (setSt x i 5) else none) := ⟨HF.out⟩
    clear HF
    generalize hasI L i = hh at *
    cases hp5 : (x.phase == 5)
    all_goals
     rw [hp5] at HF5
     go_wp2_with (first | (go_at_call 118; refine (hcon.out _ _ _ HO2.out).mono ?_; rintro e w6 ⟨rfl, rfl⟩))
     go_ret
    · exact OnRes.no HF5.out HS.out.bx.below
    · exact OnRes.ite hh HF5.out HS.out.bx
  · have HF2 : Aside0 (rr = if (stOf x.steps i == 1) = true then some (if (kindOf l i == 2 || ((setSt x i 2).phase == 1 && (((kindsL l 2 : Nat) : Int) == 0 && allL l (setSt x i 2) 1 [2]))) = true then phX (setSt x i 2) 3 else setSt x i 2) else none) := ⟨HF.out⟩
    have hyl : (setSt x i 2).steps.length = l.length := by
     have := HXX.out.1
     show (x.steps.set i 2).length = _
     rw [List.length_set]
     exact this
    have hyx : (setSt x i 2).steps.length = x.steps.length := by
     show (x.steps.set i 2).length = _
     rw [List.length_set]
    clear HF hp0 hp1 hp6 hp7 hcon HO2
    generalize setSt x i 2 = y at *
    obtain ⟨hp0, hp1, hp2, hp3, hp4, hp5, hp6, hp7, hp8, hp9, hp10, hp11, hp12⟩ := HS.out.bx.cells
    have hl8 := HXX.out.2
    have hkc := Aside0.mk (fun U (h : Bx w U p nm l A c y (some ⟨gb, 0, none⟩) cb) => kinds_calls nm l A c y (some ⟨gb, 0, none⟩) cb 2 U (HA.out.below h.below) hl8)
    have hal := Aside0.mk (fun U (h : Bx w U p nm l A c y (some ⟨gb, 0, none⟩) cb) (S : Option Addr) (cs : Nat) (hs : Kd.C (Kd.int .i64) U S 1 [2]) => (by exact all_calls nm l A c y (some ⟨gb, 0, none⟩) cb 1 S cs [2] U (HA.out.below h.below) hl8 hyl h.reads hs (by show 1 ≤ 8; omega) : Calls Tryz.prog 135 #[.agg #[.string nm, .slice A l.length c, .int .i64 y.id, .string y.key, .string y.name, .int .i64 y.version, .int .i64 y.phase, .int .i64 y.cause, .slice (some ⟨gb, 0, none⟩) y.steps.length cb, .int .i64 (y.freed 0), .int .i64 (y.freed 1), .int .i64 (y.freed 2), .int .i64 (y.freed 3)], .int .i64 1, .slice S 1 cs] U fun e w' => e = .returned (.bool (allL l y 1 [2])) ∧ Below U.heap.size U w'))
    rw [hyx] at hkc hal hp8
    obtain ⟨ad, hAe, A1, c1, A2, c2, h1⟩ := HA.out.one (stepAt_eq hi)
    have hkd := (h1.below HS.out.bx.below).c1_
    have hd3 : decide ((i : Int) < (l.length : Int)) = true := decide_eq_true (by omega)
    subst hAe
    clear h1
    unfold kindOf at HF2
    generalize hk2 : ((stepAt l i).kind == 2) = k2 at *
    generalize (stepAt l i).kind = kd at *
    generalize allL l y 1 [2] = a2 at *
    generalize hp1' : (y.phase == 1) = q1 at *
    generalize hk0 : (((kindsL l 2 : Nat) : Int) == 0) = k0 at *
    generalize hw1 : (stOf x.steps i == 1) = was at *
    have HYX := Aside0.mk hyx
    clear hyx
    go_wp2_with fail
    go_quiet (fail)
    have HS' := Aside0.mk (fun (W : World) (hb : Below w5.heap.size w5 W) => HS.out.bx.on hb)
    rcases (by cases k2 <;> cases q1 <;> cases k0 <;> cases a2 <;> simp : k2 = true ∨ (k2 = false ∧ q1 = false) ∨ (k2 = false ∧ q1 = true ∧ k0 = false) ∨ (k2 = false ∧ q1 = true ∧ k0 = true ∧ a2 = false) ∨ (k2 = false ∧ q1 = true ∧ k0 = true ∧ a2 = true)) with rfl | ⟨rfl, rfl⟩ | ⟨rfl, rfl, rfl⟩ | ⟨rfl, rfl, rfl, rfl⟩ | ⟨rfl, rfl, rfl, rfl⟩
    all_goals
     go_wp2_with (first | (go_at_call 33; refine (hkc.out _ (HS'.out _ (bdn (Below.refl _ _)))).mono ?_; rintro e w6 ⟨rfl, hb6⟩; have H6 := Aside0.mk ((HS'.out _ (bdn (Below.refl _ _))).on hb6); clear hb6; obtain ⟨hr0, hr1, hr2, hr3, hr4, hr5, hr6, hr7, hr8, hr9, hr10, hr11, hr12⟩ := H6.out.cells; rw [HYX.out] at hr8; have hg6 := H6.out.free 6) | (go_at_call 135; refine (hal.out _ (H6.out.on (below_one _ _)) _ _ (lit_row _ [2] _ rfl (by show 1 ≤ 1000000; omega))).mono ?_; rintro e w7 ⟨rfl, hb7⟩; have H7 := Aside0.mk ((H6.out.on (below_one _ _)).on hb7); clear hb7; obtain ⟨hs0, hs1, hs2, hs3, hs4, hs5, hs6, hs7, hs8, hs9, hs10, hs11, hs12⟩ := H7.out.cells; rw [HYX.out] at hs8; have hg7 := H7.out.free 6))
     go_ret
    · exact OnRes.ite was HF2.out ((HS'.out _ (bdn (Below.refl _ _))).setPh 3)
    · exact OnRes.ite was HF2.out (HS'.out _ (bdn (Below.refl _ _)))
    · exact OnRes.ite was HF2.out H6.out
    · exact OnRes.ite was HF2.out H7.out
    · exact OnRes.ite was HF2.out (H7.out.setPh 3)
  · have HF5 : Aside0 (rr = if x.phase = 1 ∨ x.phase = 2 then (if (stOf x.steps i == 1) = true then some (phcX (setSt x i 3) 5 3) else none) else if x.phase = 5 then (if (stOf x.steps i == 1) = true then some (setSt x i 3) else none) else none) := ⟨HF.out⟩
    have hgp : g ≠ p := HS.out.ne
    have hpg : p ≠ g := Ne.symm hgp
    clear HF hcon HO2 HXX
    generalize hw1 : (stOf x.steps i == 1) = was at *
    by_cases e12 : x.phase = 1 ∨ x.phase = 2
    · rw [if_pos e12] at HF5
      rcases e12 with e1 | e1
      · have q1 : (x.phase == 1) = true := by rw [e1]; rfl
        clear e1
        go_wp2_with fail
        go_region_held3 (fun w' => w'.cell? ⟨g, 3, none⟩ = some (.int .i64 3)) (first | go_keep) (first | fail)
        all_goals
         go_wp2_with fail
         go_ret
         exact OnRes.ite was HF5.out (((HS.out.bx.setPh 5).setCause 3).on (below_drew (Below.refl _ _)))
      · have q1 : (x.phase == 1) = false := by rw [e1]; rfl
        have q2 : (x.phase == 2) = true := by rw [e1]; rfl
        clear e1
        go_wp2_with fail
        go_region_held3 (fun w' => w'.cell? ⟨g, 3, none⟩ = some (.int .i64 3)) (first | go_keep) (first | fail)
        all_goals
         go_wp2_with fail
         go_ret
         exact OnRes.ite was HF5.out (((HS.out.bx.setPh 5).setCause 3).on (below_drew (Below.refl _ _)))
    · rw [if_neg e12] at HF5
      have q1 : (x.phase == 1) = false := beq_eq_false_iff_ne.2 fun h => e12 (.inl h)
      have q2 : (x.phase == 2) = false := beq_eq_false_iff_ne.2 fun h => e12 (.inr h)
      clear e12
      by_cases e5 : x.phase = 5
      · rw [if_pos e5] at HF5
        have q5 : (x.phase == 5) = true := by rw [e5]; rfl
        clear e5
        go_wp2_with fail
        go_ret
        exact OnRes.ite was HF5.out HS.out.bx
      · rw [if_neg e5] at HF5
        have q5 : (x.phase == 5) = false := beq_eq_false_iff_ne.2 e5
        clear e5
        go_wp2_with fail
        go_ret
        exact OnRes.no HF5.out HS.out.bx.below
  · have HF5 : Aside0 (rr = if x.phase = 1 ∨ x.phase = 2 then (if (stOf x.steps i == 1) = true then some (phcX (setSt x i 4) 5 4) else none) else if x.phase = 5 then (if (stOf x.steps i == 1) = true then some (setSt x i 4) else none) else none) := ⟨HF.out⟩
    have hgp : g ≠ p := HS.out.ne
    have hpg : p ≠ g := Ne.symm hgp
    clear HF hcon HO2 HXX
    generalize hw1 : (stOf x.steps i == 1) = was at *
    by_cases e12 : x.phase = 1 ∨ x.phase = 2
    · rw [if_pos e12] at HF5
      rcases e12 with e1 | e1
      · have q1 : (x.phase == 1) = true := by rw [e1]; rfl
        clear e1
        go_wp2_with fail
        go_region_held3 (fun w' => w'.cell? ⟨g, 3, none⟩ = some (.int .i64 4)) (first | go_keep) (first | fail)
        all_goals
         go_wp2_with fail
         go_ret
         exact OnRes.ite was HF5.out (((HS.out.bx.setPh 5).setCause 4).on (below_drew (Below.refl _ _)))
      · have q1 : (x.phase == 1) = false := by rw [e1]; rfl
        have q2 : (x.phase == 2) = true := by rw [e1]; rfl
        clear e1
        go_wp2_with fail
        go_region_held3 (fun w' => w'.cell? ⟨g, 3, none⟩ = some (.int .i64 4)) (first | go_keep) (first | fail)
        all_goals
         go_wp2_with fail
         go_ret
         exact OnRes.ite was HF5.out (((HS.out.bx.setPh 5).setCause 4).on (below_drew (Below.refl _ _)))
    · rw [if_neg e12] at HF5
      have q1 : (x.phase == 1) = false := beq_eq_false_iff_ne.2 fun h => e12 (.inl h)
      have q2 : (x.phase == 2) = false := beq_eq_false_iff_ne.2 fun h => e12 (.inr h)
      clear e12
      by_cases e5 : x.phase = 5
      · rw [if_pos e5] at HF5
        have q5 : (x.phase == 5) = true := by rw [e5]; rfl
        clear e5
        go_wp2_with fail
        go_ret
        exact OnRes.ite was HF5.out HS.out.bx
      · rw [if_neg e5] at HF5
        have q5 : (x.phase == 5) = false := beq_eq_false_iff_ne.2 e5
        clear e5
        go_wp2_with fail
        go_ret
        exact OnRes.no HF5.out HS.out.bx.below
end Go.Proofs.YtgjddnaidjbhlaaGreatDoor.Ph

/- phase: on of a view in a box (P19): walked by hand. -/
namespace Go.Proofs.YtgjddnaidjbhlaaGreatDoor.Ph
open Go.RowKit Go.IntWalk Go.Proofs.YtgjddnaidjbhlaaGreatDoorW.PrintWords Go.Proofs.YtgjddnaidjbhlaaGreatDoorW.PrintLast Go.Proofs.YtgjddnaidjbhlaaGreatDoorW.PrintMore Go.Proofs.YtgjddnaidjbhlaaGreatDoor.PlName Go.Proofs.YtgjddnaidjbhlaaGreatDoor.Pl

theorem OnRes.of {w W : World} {p : Nat} {nm : ByteArray} {l : List Step} {A : Option Addr} {c : Nat} {o o' : Option Inst} (ho : o = o') (h : Below w.heap.size w W ∧ ∀ y, o' = some y → ∃ B cb, Bx w W p nm l A c y B cb) : OnRes w W p nm l A c o (.returned (.bool o'.isSome)) :=
 ⟨by rw [ho], h.1, fun y hy => h.2 y (ho ▸ hy)⟩
theorem btwN_iff {n a b : Int} (h : btwN n a b = true) : a ≤ n ∧ n ≤ b := by
 unfold btwN at h
 rw [Bool.and_eq_true, decide_eq_true_eq, decide_eq_true_eq] at h
 exact h
theorem note_mark {n : Note} (h : mayNote n = true) (hk : n.kind = 6) : (0 ≤ n.step ∧ n.step ≤ 7) ∧ (2 ≤ n.state ∧ n.state ≤ 5) := by
 unfold mayNote at h
 rw [hk] at h
 simp only [if_neg (show ¬ (6 : Int) = 1 by decide), if_neg (show ¬ (6 : Int) = 2 by decide), if_neg (show ¬ ((6 : Int) = 3 ∨ (6 : Int) = 4 ∨ (6 : Int) = 7) by decide), if_neg (show ¬ (6 : Int) = 5 by decide), if_pos, Bool.and_eq_true] at h
 exact ⟨btwN_iff h.2.2.2.2.1, btwN_iff h.2.2.2.2.2.1⟩
theorem note_freed {n : Note} (h : mayNote n = true) (hk : n.kind = 8) : 0 ≤ n.part ∧ n.part ≤ 3 := by
 unfold mayNote at h
 rw [hk] at h
 simp only [if_neg (show ¬ (8 : Int) = 1 by decide), if_neg (show ¬ (8 : Int) = 2 by decide), if_neg (show ¬ ((8 : Int) = 3 ∨ (8 : Int) = 4 ∨ (8 : Int) = 7) by decide), if_neg (show ¬ (8 : Int) = 5 by decide), if_neg (show ¬ (8 : Int) = 6 by decide), if_pos, Bool.and_eq_true] at h
 exact btwN_iff h.2.2.2.2.1
set_option maxHeartbeats 16000000 in
set_option maxRecDepth 100000 in
theorem on_calls {nm : ByteArray} {l : List Step} {A : Option Addr} {c : Nat} {x : Inst} {B : Option Addr} {cb : Nat} {w W : World} {p : Nat} (kind inst step state part cause : Int) (key name : ByteArray) (version : Int) (text : ByteArray) (h : Bx w W p nm l A c x B cb) (hok : defOk nm l = true) (hnm : nm.size ≤ 140737488351232) (hS : StepsAt w A l) (hb : ∀ s ∈ l, StepB s) (hc : l.length ≤ c) (hT : TabsAt w) (hx : x.steps.length = l.length) (hmay : mayNote ⟨kind, inst, step, state, part, cause, key, name, version, text⟩ = true)
 (hbr : kind = 9 → ∀ U, Bx w U p nm l A c x B cb → Calls Tryz.prog 131 #[.pointer (some ⟨p, 0, none⟩), .agg #[.int .i64 kind, .int .i64 inst, .int .i64 step, .int .i64 state, .int .i64 part, .int .i64 cause, .string key, .string name, .int .i64 version, .string text]] U fun e W' => OnRes w W' p nm l A c (briefX nm l x state cause) e) :
 Calls Tryz.prog 62 #[.pointer (some ⟨p, 0, none⟩), .agg #[.int .i64 kind, .int .i64 inst, .int .i64 step, .int .i64 state, .int .i64 part, .int .i64 cause, .string key, .string name, .int .i64 version, .string text]] W fun e W' => OnRes w W' p nm l A c (onX nm l x ⟨kind, inst, step, state, part, cause, key, name, version, text⟩) e := by
 have hl8 := (defOk_len hok).2.1
 have HB := Aside0.mk (Bn.start h ⟨kind, inst, step, state, part, cause, key, name, version, text⟩)
 have HF : Aside0 (onX nm l x ⟨kind, inst, step, state, part, cause, key, name, version, text⟩ = if kind = 3 then (if x.phase == 1 then some (turnX x 1) else none)
  else if kind = 4 then (if x.phase == 1 then some (turnX x 2) else none)
  else if kind = 5 then issueX nm l x step
  else if kind = 6 then markX nm l x step state
  else if kind = 7 then endX l x
  else if kind = 8 then freeX nm l x part
  else if kind = 9 then briefX nm l x state cause
  else none) := ⟨rfl⟩
 have htu := Aside0.mk (fun U (h : Bx w U p nm l A c x B cb) (q : Int) => turn_calls h q)
 have his := Aside0.mk (fun U (h : Bx w U p nm l A c x B cb) => issue_calls (n := ⟨kind, inst, step, state, part, cause, key, name, version, text⟩) h hnm hS hb hl8 hc hT hx)
 have hen := Aside0.mk (fun U (h : Bx w U p nm l A c x B cb) => end_calls h hl8 hS hx)
 have hfr := Aside0.mk (fun (h8 : kind = 8) U (h : Bx w U p nm l A c x B cb) => free_calls h hok hnm hS hb hc hT (note_freed hmay h8).1 (note_freed hmay h8).2)
 have hmk : Aside0 (kind = 6 → ∀ U, Bx w U p nm l A c x B cb → Calls Tryz.prog 129 #[.pointer (some ⟨p, 0, none⟩), .agg #[.int .i64 kind, .int .i64 inst, .int .i64 step, .int .i64 state, .int .i64 part, .int .i64 cause, .string key, .string name, .int .i64 version, .string text]] U fun e W' => OnRes w W' p nm l A c (markX nm l x step state) e) := ⟨fun h6 U h => by
  obtain ⟨⟨h0, h7⟩, hs⟩ := note_mark hmay h6
  have h0 : 0 ≤ step := h0
  obtain ⟨i, hi⟩ : ∃ i : Nat, step = (i : Int) := ⟨step.toNat, by omega⟩
  subst hi
  by_cases hlt : i < l.length
  · exact mark_in kind inst i state part cause key name version text h hnm hS hb hl8 hc hT hx hlt hs
  · exact mark_out kind inst i state part cause key name version text h (by omega) (by omega)⟩
 replace hbr := Aside0.mk hbr
 clear h hok hnm hS hb hc hT hx hmay hl8
 generalize onX nm l x ⟨kind, inst, step, state, part, cause, key, name, version, text⟩ = rr at *
 go_enter Tryz.func62, Tryz.ntmps62
 generalize issueX nm l x step = o3 at *
 generalize markX nm l x step state = o4 at *
 generalize endX l x = o5 at *
 generalize freeX nm l x part = o6 at *
 generalize briefX nm l x state cause = o7 at *
 have hks : kind = 3 ∨ kind = 4 ∨ kind = 5 ∨ kind = 6 ∨ kind = 7 ∨ kind = 8 ∨ kind = 9 ∨ (kind ≠ 3 ∧ kind ≠ 4 ∧ kind ≠ 5 ∧ kind ≠ 6 ∧ kind ≠ 7 ∧ kind ≠ 8 ∧ kind ≠ 9) := by omega
 rcases hks with rfl | rfl | rfl | rfl | rfl | rfl | rfl | ⟨n3, n4, n5, n6, n7, n8, n9⟩
 rotate_left 7
 · have q3 : (kind == 3) = false := beq_eq_false_iff_ne.2 n3
   have q4 : (kind == 4) = false := beq_eq_false_iff_ne.2 n4
   have q5 : (kind == 5) = false := beq_eq_false_iff_ne.2 n5
   have q6 : (kind == 6) = false := beq_eq_false_iff_ne.2 n6
   have q7 : (kind == 7) = false := beq_eq_false_iff_ne.2 n7
   have q8 : (kind == 8) = false := beq_eq_false_iff_ne.2 n8
   have q9 : (kind == 9) = false := beq_eq_false_iff_ne.2 n9
   have HN : Aside0 (rr = none) := ⟨by rw [HF.out, if_neg n3, if_neg n4, if_neg n5, if_neg n6, if_neg n7, if_neg n8, if_neg n9]⟩
   clear n3 n4 n5 n6 n7 n8 n9
   go_wp2
   go_ret
   exact OnRes.no HN.out HB.out.bx.below
 all_goals
  go_wp2_with (first | (go_at_call 127; refine (htu.out _ HB.out.bx _).mono ?_; intro e w1 h1; generalize ho : (if (x.phase == 1) = true then some (turnX x _) else none) = o1 at h1; obtain ⟨rfl, hb1⟩ := h1; have H1 := Aside0.mk hb1; replace ho := Aside0.mk ho; clear hb1) | (go_at_call 128; refine (his.out _ HB.out.bx).mono ?_; rintro e w1 ⟨rfl, hb1⟩; have H1 := Aside0.mk hb1; clear hb1) | (go_at_call 129; refine (hmk.out rfl _ HB.out.bx).mono ?_; rintro e w1 ⟨rfl, hb1⟩; have H1 := Aside0.mk hb1; clear hb1) | (go_at_call 64; refine (hen.out _ HB.out.bx).mono ?_; rintro e w1 ⟨rfl, hb1⟩; have H1 := Aside0.mk hb1; clear hb1) | (go_at_call 130; refine (hfr.out rfl _ HB.out.bx).mono ?_; rintro e w1 ⟨rfl, hb1⟩; have H1 := Aside0.mk hb1; clear hb1) | (go_at_call 131; refine (hbr.out rfl _ HB.out.bx).mono ?_; rintro e w1 ⟨rfl, hb1⟩; have H1 := Aside0.mk hb1; clear hb1))
  go_ret
  exact OnRes.of (by first | exact HF.out.trans ho.out | exact HF.out) H1.out
end Go.Proofs.YtgjddnaidjbhlaaGreatDoor.Ph

/- phase.Start (P19): walked by hand. -/
namespace Go.Proofs.YtgjddnaidjbhlaaGreatDoor.Ph
open Go.RowKit Go.IntWalk Go.Proofs.YtgjddnaidjbhlaaGreatDoorW.PrintWords Go.Proofs.YtgjddnaidjbhlaaGreatDoorW.PrintLast Go.Proofs.YtgjddnaidjbhlaaGreatDoorW.PrintMore Go.Proofs.YtgjddnaidjbhlaaGreatDoor.PlName Go.Proofs.YtgjddnaidjbhlaaGreatDoor.Pl
attribute [local go_sem ↓] Go.wp_at_zero Go.wp_at_succ

/-- An instance's value. -/
def instV (x : Inst) (v : Value) : Value := .agg #[.int .i64 x.id, .string x.key, .string x.name, .int .i64 x.version, .int .i64 x.phase, .int .i64 x.cause, v, .int .i64 (x.freed 0), .int .i64 (x.freed 1), .int .i64 (x.freed 2), .int .i64 (x.freed 3)]
theorem row11 {w : World} {g t : Nat} {a0 a1 a2 a3 a4 a5 a6 a7 a8 a9 a10 : Value} (h : w.heap[g]? = some (.cells #[a0, a1, a2, a3, a4, a5, a6, a7, a8, a9, a10] t (0, 0))) (v0 v1 v2 v3 v4 v5 v6 v7 v8 v9 v10 : Value) :
 (((((((((((w.setCell ⟨g, 0, none⟩ v0).setCell ⟨g, 1, none⟩ v1).setCell ⟨g, 2, none⟩ v2).setCell ⟨g, 3, none⟩ v3).setCell ⟨g, 4, none⟩ v4).setCell ⟨g, 5, none⟩ v5).setCell ⟨g, 6, none⟩ v6).setCell ⟨g, 7, none⟩ v7).setCell ⟨g, 8, none⟩ v8).setCell ⟨g, 9, none⟩ v9).setCell ⟨g, 10, none⟩ v10).heap[g]? = some (.cells #[v0, v1, v2, v3, v4, v5, v6, v7, v8, v9, v10] t (0, 0)) := by
 have h0 : (w.setCell ⟨g, 0, none⟩ v0).heap[g]? = some (.cells #[v0, a1, a2, a3, a4, a5, a6, a7, a8, a9, a10] t (0, 0)) := by
  rw [row_setCell h 0 v0]
  simp
 generalize w.setCell ⟨g, 0, none⟩ v0 = w0 at h0 ⊢
 have h1 : (w0.setCell ⟨g, 1, none⟩ v1).heap[g]? = some (.cells #[v0, v1, a2, a3, a4, a5, a6, a7, a8, a9, a10] t (0, 0)) := by
  rw [row_setCell h0 1 v1]
  simp
 generalize w0.setCell ⟨g, 1, none⟩ v1 = w1 at h1 ⊢
 have h2 : (w1.setCell ⟨g, 2, none⟩ v2).heap[g]? = some (.cells #[v0, v1, v2, a3, a4, a5, a6, a7, a8, a9, a10] t (0, 0)) := by
  rw [row_setCell h1 2 v2]
  simp
 generalize w1.setCell ⟨g, 2, none⟩ v2 = w2 at h2 ⊢
 have h3 : (w2.setCell ⟨g, 3, none⟩ v3).heap[g]? = some (.cells #[v0, v1, v2, v3, a4, a5, a6, a7, a8, a9, a10] t (0, 0)) := by
  rw [row_setCell h2 3 v3]
  simp
 generalize w2.setCell ⟨g, 3, none⟩ v3 = w3 at h3 ⊢
 have h4 : (w3.setCell ⟨g, 4, none⟩ v4).heap[g]? = some (.cells #[v0, v1, v2, v3, v4, a5, a6, a7, a8, a9, a10] t (0, 0)) := by
  rw [row_setCell h3 4 v4]
  simp
 generalize w3.setCell ⟨g, 4, none⟩ v4 = w4 at h4 ⊢
 have h5 : (w4.setCell ⟨g, 5, none⟩ v5).heap[g]? = some (.cells #[v0, v1, v2, v3, v4, v5, a6, a7, a8, a9, a10] t (0, 0)) := by
  rw [row_setCell h4 5 v5]
  simp
 generalize w4.setCell ⟨g, 5, none⟩ v5 = w5 at h5 ⊢
 have h6 : (w5.setCell ⟨g, 6, none⟩ v6).heap[g]? = some (.cells #[v0, v1, v2, v3, v4, v5, v6, a7, a8, a9, a10] t (0, 0)) := by
  rw [row_setCell h5 6 v6]
  simp
 generalize w5.setCell ⟨g, 6, none⟩ v6 = w6 at h6 ⊢
 have h7 : (w6.setCell ⟨g, 7, none⟩ v7).heap[g]? = some (.cells #[v0, v1, v2, v3, v4, v5, v6, v7, a8, a9, a10] t (0, 0)) := by
  rw [row_setCell h6 7 v7]
  simp
 generalize w6.setCell ⟨g, 7, none⟩ v7 = w7 at h7 ⊢
 have h8 : (w7.setCell ⟨g, 8, none⟩ v8).heap[g]? = some (.cells #[v0, v1, v2, v3, v4, v5, v6, v7, v8, a9, a10] t (0, 0)) := by
  rw [row_setCell h7 8 v8]
  simp
 generalize w7.setCell ⟨g, 8, none⟩ v8 = w8 at h8 ⊢
 have h9 : (w8.setCell ⟨g, 9, none⟩ v9).heap[g]? = some (.cells #[v0, v1, v2, v3, v4, v5, v6, v7, v8, v9, a10] t (0, 0)) := by
  rw [row_setCell h8 9 v9]
  simp
 generalize w8.setCell ⟨g, 9, none⟩ v9 = w9 at h9 ⊢
 have h10 : (w9.setCell ⟨g, 10, none⟩ v10).heap[g]? = some (.cells #[v0, v1, v2, v3, v4, v5, v6, v7, v8, v9, v10] t (0, 0)) := by
  rw [row_setCell h9 10 v10]
  simp
 generalize w9.setCell ⟨g, 10, none⟩ v10 = w10 at h10 ⊢
 exact h10
theorem start_ways (d i1 i2 k v1 v2 : Bool) : (d && (i1 && (i2 && (k && (v1 && v2))))) = false → d = false ∨ (d = true ∧ i1 = false) ∨ (d = true ∧ i1 = true ∧ i2 = false) ∨ (d = true ∧ i1 = true ∧ i2 = true ∧ k = false) ∨ (d = true ∧ i1 = true ∧ i2 = true ∧ k = true ∧ v1 = false) ∨ (d = true ∧ i1 = true ∧ i2 = true ∧ k = true ∧ v1 = true ∧ v2 = false) := by
 revert d i1 i2 k v1 v2
 decide
/-- The worlds of Start. -/
structure Sw (w W : World) (nm : ByteArray) (l : List Step) (A : Option Addr) (c : Nat) : Prop where
 below : Below w.heap.size w W
 dbox : W.heap[w.heap.size]? = some (.cells #[.string nm, .slice A l.length c] 24 (0, 0))
 rbox : W.heap[w.heap.size + 1]? = some (.cells #[.int .i64 0, .string ByteArray.empty, .string ByteArray.empty, .int .i64 0, .int .i64 0, .int .i64 0, .slice none 0 0, .int .i64 0, .int .i64 0, .int .i64 0, .int .i64 0] 28 (0, 0))
theorem Sw.on {w W W2 : World} {nm : ByteArray} {l : List Step} {A : Option Addr} {c : Nat} (h : Sw w W nm l A c) (hb : Below W.heap.size W W2) : Sw w W2 nm l A c := ⟨on_ h.below hb, row_on hb h.dbox, row_on hb h.rbox⟩
theorem Sw.cells {w W : World} {nm : ByteArray} {l : List Step} {A : Option Addr} {c : Nat} (h : Sw w W nm l A c) : W.cell? ⟨w.heap.size, 0, none⟩ = some (.string nm) ∧ W.cell? ⟨w.heap.size, 1, none⟩ = some (.slice A l.length c) ∧ (∀ j, W.frozen? ⟨w.heap.size + 1, j, none⟩ = false) ∧ W.cell? ⟨w.heap.size + 1, 0, none⟩ = some (.int .i64 0) ∧ W.cell? ⟨w.heap.size + 1, 1, none⟩ = some (.string ByteArray.empty) ∧ W.cell? ⟨w.heap.size + 1, 2, none⟩ = some (.string ByteArray.empty) ∧ W.cell? ⟨w.heap.size + 1, 3, none⟩ = some (.int .i64 0) ∧ W.cell? ⟨w.heap.size + 1, 4, none⟩ = some (.int .i64 0) ∧ W.cell? ⟨w.heap.size + 1, 5, none⟩ = some (.int .i64 0) ∧ W.cell? ⟨w.heap.size + 1, 6, none⟩ = some (.slice none 0 0) ∧ W.cell? ⟨w.heap.size + 1, 7, none⟩ = some (.int .i64 0) ∧ W.cell? ⟨w.heap.size + 1, 8, none⟩ = some (.int .i64 0) ∧ W.cell? ⟨w.heap.size + 1, 9, none⟩ = some (.int .i64 0) ∧ W.cell? ⟨w.heap.size + 1, 10, none⟩ = some (.int .i64 0) := ⟨row_cell h.dbox rfl, row_cell h.dbox rfl, fun j => free_of_row h.rbox, row_cell h.rbox rfl, row_cell h.rbox rfl, row_cell h.rbox rfl, row_cell h.rbox rfl, row_cell h.rbox rfl, row_cell h.rbox rfl, row_cell h.rbox rfl, row_cell h.rbox rfl, row_cell h.rbox rfl, row_cell h.rbox rfl, row_cell h.rbox rfl⟩
theorem Sw.filled {w W : World} {nm : ByteArray} {l : List Step} {A : Option Addr} {c : Nat} (h : Sw w W nm l A c) (v0 v1 v2 v3 v4 v5 v6 v7 v8 v9 v10 : Value) : Below w.heap.size w (((((((((((W.setCell ⟨w.heap.size + 1, 0, none⟩ v0).setCell ⟨w.heap.size + 1, 1, none⟩ v1).setCell ⟨w.heap.size + 1, 2, none⟩ v2).setCell ⟨w.heap.size + 1, 3, none⟩ v3).setCell ⟨w.heap.size + 1, 4, none⟩ v4).setCell ⟨w.heap.size + 1, 5, none⟩ v5).setCell ⟨w.heap.size + 1, 6, none⟩ v6).setCell ⟨w.heap.size + 1, 7, none⟩ v7).setCell ⟨w.heap.size + 1, 8, none⟩ v8).setCell ⟨w.heap.size + 1, 9, none⟩ v9).setCell ⟨w.heap.size + 1, 10, none⟩ v10) := by
 have s : ∀ (U : World) (j : Nat) (v : Value), Below w.heap.size w U → Below w.heap.size w (U.setCell ⟨w.heap.size + 1, j, none⟩ v) := fun U j v h => h.setCell (p := ⟨w.heap.size + 1, j, none⟩) (Nat.le_succ _) v
 exact s _ _ _ (s _ _ _ (s _ _ _ (s _ _ _ (s _ _ _ (s _ _ _ (s _ _ _ (s _ _ _ (s _ _ _ (s _ _ _ (s _ _ _ h.below))))))))))
set_option maxHeartbeats 16000000 in
set_option maxRecDepth 100000 in
theorem start_no (nm : ByteArray) (l : List Step) (A : Option Addr) (c : Nat) (id : Int) (key : ByteArray) (version : Int) (w : World) (hnm : nm.size ≤ 140737488351232) (hk : key.size ≤ 140737488351232) (hS : StepsAt w A l) (hb : ∀ s ∈ l, StepB s) (hn : l.length ≤ 9000000000000) (hc : l.length ≤ c) (hT : TabsAt w) (hno : startOk nm l id key version = false) :
 Calls Tryz.prog 12 #[.agg #[.string nm, .slice A l.length c], .int .i64 id, .string key, .int .i64 version] w fun e w' => e = .returned (.tuple #[instV nullX (.slice none 0 0), .int .i64 1]) ∧ Below w.heap.size w w' := by
 have HS0 : Aside0 (Sw w ((w.alloc (.cells #[.string nm, .slice A l.length c] 24)).alloc (.cells #[.int .i64 0, .string ByteArray.empty, .string ByteArray.empty, .int .i64 0, .int .i64 0, .int .i64 0, .slice none 0 0, .int .i64 0, .int .i64 0, .int .i64 0, .int .i64 0] 28)) nm l A c) := ⟨on_ (below_one _ _) (below_one _ _), row_on (below_one _ _) (alloc1 w _), alloc_two w _ _⟩
 have hck := Aside0.mk (fun W (h : Below w.heap.size w W) => check_calls nm l A c W hnm (hS.below h) hb (by omega) hc (tabs_on hT h))
 have his : Aside0 (∀ W, Calls Tryz.prog 32 #[.string key] W fun e w' => e = .returned (.bool (Nm.isName key)) ∧ Below W.heap.size W w') := ⟨fun W => NameWalk.is_calls _ W (by omega)⟩
 have HW := start_ways _ _ _ _ _ _ (show (defOk nm l && (decide (1 ≤ id) && (decide (id ≤ 60) && (Nm.isName key && (decide (1 ≤ version) && decide (version ≤ 16)))))) = false from hno)
 clear hno hnm hk hS hb hT
 have hi1 := lt_one id
 have hi2 := gt_of id 60
 have hv1 := lt_one version
 have hv2 := gt_of version 16
 generalize defOk nm l = d at *
 generalize decide (1 ≤ id) = i1 at *
 generalize decide (id ≤ 60) = i2 at *
 generalize Nm.isName key = k at *
 generalize decide (1 ≤ version) = v1 at *
 generalize decide (version ≤ 16) = v2 at *
 go_enter Tryz.func12, Tryz.ntmps12
 rcases HW with rfl | ⟨rfl, rfl⟩ | ⟨rfl, rfl, rfl⟩ | ⟨rfl, rfl, rfl, rfl⟩ | ⟨rfl, rfl, rfl, rfl, rfl⟩ | ⟨rfl, rfl, rfl, rfl, rfl, rfl⟩
 all_goals
  (try simp only [Bool.not_true, Bool.not_false] at hi1 hi2 hv1 hv2)
  go_wp2_with (first | (go_at_call 31; refine (hck.out _ HS0.out.below).mono ?_; rintro e w1 ⟨⟨xa, xb, rfl, hxb⟩, hb1⟩; have hd1 : (xb != 0) = true := (by rw [bne, hxb]; rfl); have H1 := Aside0.mk (HS0.out.on hb1); clear hxb hb1; obtain ⟨hq0, hq1, hqf, hqr0, hqr1, hqr2, hqr3, hqr4, hqr5, hqr6, hqr7, hqr8, hqr9, hqr10⟩ := H1.out.cells) | (go_at_call 31; refine (hck.out _ HS0.out.below).mono ?_; rintro e w1 ⟨⟨xa, xb, rfl, hxb⟩, hb1⟩; have hd1 : (xb != 0) = false := (by rw [bne, hxb]; rfl); have H1 := Aside0.mk (HS0.out.on hb1); clear hxb hb1; obtain ⟨hq0, hq1, hqf, hqr0, hqr1, hqr2, hqr3, hqr4, hqr5, hqr6, hqr7, hqr8, hqr9, hqr10⟩ := H1.out.cells) | (go_at_call 32; refine (his.out _).mono ?_; rintro e w2 ⟨rfl, hb2⟩; have H2 := Aside0.mk (H1.out.on hb2); clear hb2; obtain ⟨hr0, hr1, hrf, hrr0, hrr1, hrr2, hrr3, hrr4, hrr5, hrr6, hrr7, hrr8, hrr9, hrr10⟩ := H2.out.cells))
  first
   | (have hr := row11 H2.out.rbox (.int .i64 0) (.string ⟨#[]⟩) (.string ⟨#[]⟩) (.int .i64 0) (.int .i64 0) (.int .i64 0) (.slice none 0 0) (.int .i64 0) (.int .i64 0) (.int .i64 0) (.int .i64 0); have hq := H2.out.filled (.int .i64 0) (.string ⟨#[]⟩) (.string ⟨#[]⟩) (.int .i64 0) (.int .i64 0) (.int .i64 0) (.slice none 0 0) (.int .i64 0) (.int .i64 0) (.int .i64 0) (.int .i64 0); generalize World.setCell _ _ _ = U at hr hq ⊢; refine bodyPost_ret (results_ct rfl _ _ (w.heap.size + 1) 28 _ (0, 0) _ rfl hr Tryz.underlying28 rfl (by kernel_rfl)) rfl ?_; exact ⟨rfl, hq⟩)
   | (have hr := row11 H1.out.rbox (.int .i64 0) (.string ⟨#[]⟩) (.string ⟨#[]⟩) (.int .i64 0) (.int .i64 0) (.int .i64 0) (.slice none 0 0) (.int .i64 0) (.int .i64 0) (.int .i64 0) (.int .i64 0); have hq := H1.out.filled (.int .i64 0) (.string ⟨#[]⟩) (.string ⟨#[]⟩) (.int .i64 0) (.int .i64 0) (.int .i64 0) (.slice none 0 0) (.int .i64 0) (.int .i64 0) (.int .i64 0) (.int .i64 0); generalize World.setCell _ _ _ = U at hr hq ⊢; refine bodyPost_ret (results_ct rfl _ _ (w.heap.size + 1) 28 _ (0, 0) _ rfl hr Tryz.underlying28 rfl (by kernel_rfl)) rfl ?_; exact ⟨rfl, hq⟩)
end Go.Proofs.YtgjddnaidjbhlaaGreatDoor.Ph

/- phase.On (P19): walked by hand. -/
namespace Go.Proofs.YtgjddnaidjbhlaaGreatDoor.Ph
open Go.RowKit Go.IntWalk Go.Proofs.YtgjddnaidjbhlaaGreatDoorW.PrintWords Go.Proofs.YtgjddnaidjbhlaaGreatDoorW.PrintLast Go.Proofs.YtgjddnaidjbhlaaGreatDoorW.PrintMore Go.Proofs.YtgjddnaidjbhlaaGreatDoor.PlName Go.Proofs.YtgjddnaidjbhlaaGreatDoor.Pl

/-- What On answers. -/
noncomputable def onTop (nm : ByteArray) (l : List Step) (x : Inst) (n : Note) : Inst × Int :=
 if sortL nm l x == 0 || (!mayNote n || n.inst != x.id) then (nullX, 1) else if sortL nm l x == 2 then (nullX, 190) else match onX nm l x n with | none => (nullX, 190) | some y => (y, 0)
/-- The boxes of On, ahead of its view. -/
structure Ob (w W : World) (nm : ByteArray) (l : List Step) (A : Option Addr) (c : Nat) (x : Inst) (B : Option Addr) (cb : Nat) (kind inst step state part cause : Int) (key name : ByteArray) (version : Int) (text : ByteArray) : Prop where
 below : Below w.heap.size w W
 lt : w.heap.size + 4 ≤ W.heap.size
 dbox : W.heap[w.heap.size]? = some (.cells #[.string nm, .slice A l.length c] 24 (0, 0))
 xbox : W.heap[w.heap.size + 1]? = some (.cells #[.int .i64 x.id, .string x.key, .string x.name, .int .i64 x.version, .int .i64 x.phase, .int .i64 x.cause, .slice B x.steps.length cb, .int .i64 (x.freed 0), .int .i64 (x.freed 1), .int .i64 (x.freed 2), .int .i64 (x.freed 3)] 28 (0, 0))
 nbox : W.heap[w.heap.size + 2]? = some (.cells #[.int .i64 kind, .int .i64 inst, .int .i64 step, .int .i64 state, .int .i64 part, .int .i64 cause, .string key, .string name, .int .i64 version, .string text] 37 (0, 0))
 rbox : W.heap[w.heap.size + 3]? = some (.cells #[.int .i64 0, .string ByteArray.empty, .string ByteArray.empty, .int .i64 0, .int .i64 0, .int .i64 0, .slice none 0 0, .int .i64 0, .int .i64 0, .int .i64 0, .int .i64 0] 28 (0, 0))
section
variable {w W W2 : World} {nm : ByteArray} {l : List Step} {A : Option Addr} {c : Nat} {x : Inst} {B : Option Addr} {cb : Nat} {kind inst step state part cause : Int} {key name : ByteArray} {version : Int} {text : ByteArray}
theorem Ob.on (h : Ob w W nm l A c x B cb kind inst step state part cause key name version text) (hb : Below W.heap.size W W2) : Ob w W2 nm l A c x B cb kind inst step state part cause key name version text :=
 ⟨on_ h.below hb, Nat.le_trans h.lt hb.size, row_on hb h.dbox, row_on hb h.xbox, row_on hb h.nbox, row_on hb h.rbox⟩
theorem alloc_4 (w : World) (a b c d : Obj) : ((((w.alloc a).alloc b).alloc c).alloc d).heap[w.heap.size + 3]? = some d ∧ ((((w.alloc a).alloc b).alloc c).alloc d).heap.size = w.heap.size + 4 := by
 have h1 := alloc1 (((w.alloc a).alloc b).alloc c) d
 have h2 : (((w.alloc a).alloc b).alloc c).heap.size = w.heap.size + 3 := by
  show (((w.heap.push _).push _).push _).size = _
  simp
 rw [h2] at h1
 refine ⟨h1, ?_⟩
 show ((((w.heap.push _).push _).push _).push _).size = _
 simp
theorem alloc_3' (w : World) (a b c : Obj) : (((w.alloc a).alloc b).alloc c).heap[w.heap.size + 2]? = some c := by
 have h1 := alloc1 ((w.alloc a).alloc b) c
 have h2 : ((w.alloc a).alloc b).heap.size = w.heap.size + 2 := by
  show ((w.heap.push _).push _).size = _
  simp
 rw [h2] at h1
 exact h1
theorem Ob.start (nm : ByteArray) (l : List Step) (A : Option Addr) (c : Nat) (x : Inst) (B : Option Addr) (cb : Nat) (kind inst step state part cause : Int) (key name : ByteArray) (version : Int) (text : ByteArray) (w : World) : Ob w ((((w.alloc (.cells #[.string nm, .slice A l.length c] 24)).alloc (.cells #[.int .i64 x.id, .string x.key, .string x.name, .int .i64 x.version, .int .i64 x.phase, .int .i64 x.cause, .slice B x.steps.length cb, .int .i64 (x.freed 0), .int .i64 (x.freed 1), .int .i64 (x.freed 2), .int .i64 (x.freed 3)] 28)).alloc (.cells #[.int .i64 kind, .int .i64 inst, .int .i64 step, .int .i64 state, .int .i64 part, .int .i64 cause, .string key, .string name, .int .i64 version, .string text] 37)).alloc (.cells #[.int .i64 0, .string ByteArray.empty, .string ByteArray.empty, .int .i64 0, .int .i64 0, .int .i64 0, .slice none 0 0, .int .i64 0, .int .i64 0, .int .i64 0, .int .i64 0] 28)) nm l A c x B cb kind inst step state part cause key name version text :=
 ⟨on_ (on_ (on_ (below_one _ _) (below_one _ _)) (below_one _ _)) (below_one _ _), Nat.le_of_eq (alloc_4 w _ _ _ _).2.symm, row_on (below_one _ _) (row_on (below_one _ _) (row_on (below_one _ _) (alloc1 w _))), row_on (below_one _ _) (row_on (below_one _ _) (alloc_2 w _ _)), row_on (below_one _ _) (alloc_3' w _ _ _), (alloc_4 w _ _ _ _).1⟩
theorem Ob.d (h : Ob w W nm l A c x B cb kind inst step state part cause key name version text) : W.cell? ⟨w.heap.size, 0, none⟩ = some (.string nm) ∧ W.cell? ⟨w.heap.size, 1, none⟩ = some (.slice A l.length c) := ⟨row_cell h.dbox rfl, row_cell h.dbox rfl⟩
theorem Ob.xc (h : Ob w W nm l A c x B cb kind inst step state part cause key name version text) : W.cell? ⟨w.heap.size + 1, 0, none⟩ = some (.int .i64 x.id) ∧ W.cell? ⟨w.heap.size + 1, 1, none⟩ = some (.string x.key) ∧ W.cell? ⟨w.heap.size + 1, 2, none⟩ = some (.string x.name) ∧ W.cell? ⟨w.heap.size + 1, 3, none⟩ = some (.int .i64 x.version) ∧ W.cell? ⟨w.heap.size + 1, 4, none⟩ = some (.int .i64 x.phase) ∧ W.cell? ⟨w.heap.size + 1, 5, none⟩ = some (.int .i64 x.cause) ∧ W.cell? ⟨w.heap.size + 1, 6, none⟩ = some (.slice B x.steps.length cb) ∧ W.cell? ⟨w.heap.size + 1, 7, none⟩ = some (.int .i64 (x.freed 0)) ∧ W.cell? ⟨w.heap.size + 1, 8, none⟩ = some (.int .i64 (x.freed 1)) ∧ W.cell? ⟨w.heap.size + 1, 9, none⟩ = some (.int .i64 (x.freed 2)) ∧ W.cell? ⟨w.heap.size + 1, 10, none⟩ = some (.int .i64 (x.freed 3)) := ⟨row_cell h.xbox rfl, row_cell h.xbox rfl, row_cell h.xbox rfl, row_cell h.xbox rfl, row_cell h.xbox rfl, row_cell h.xbox rfl, row_cell h.xbox rfl, row_cell h.xbox rfl, row_cell h.xbox rfl, row_cell h.xbox rfl, row_cell h.xbox rfl⟩
theorem Ob.rc (h : Ob w W nm l A c x B cb kind inst step state part cause key name version text) : W.cell? ⟨w.heap.size + 3, 0, none⟩ = some (.int .i64 0) ∧ W.cell? ⟨w.heap.size + 3, 1, none⟩ = some (.string ByteArray.empty) ∧ W.cell? ⟨w.heap.size + 3, 2, none⟩ = some (.string ByteArray.empty) ∧ W.cell? ⟨w.heap.size + 3, 3, none⟩ = some (.int .i64 0) ∧ W.cell? ⟨w.heap.size + 3, 4, none⟩ = some (.int .i64 0) ∧ W.cell? ⟨w.heap.size + 3, 5, none⟩ = some (.int .i64 0) ∧ W.cell? ⟨w.heap.size + 3, 6, none⟩ = some (.slice none 0 0) ∧ W.cell? ⟨w.heap.size + 3, 7, none⟩ = some (.int .i64 0) ∧ W.cell? ⟨w.heap.size + 3, 8, none⟩ = some (.int .i64 0) ∧ W.cell? ⟨w.heap.size + 3, 9, none⟩ = some (.int .i64 0) ∧ W.cell? ⟨w.heap.size + 3, 10, none⟩ = some (.int .i64 0) := ⟨row_cell h.rbox rfl, row_cell h.rbox rfl, row_cell h.rbox rfl, row_cell h.rbox rfl, row_cell h.rbox rfl, row_cell h.rbox rfl, row_cell h.rbox rfl, row_cell h.rbox rfl, row_cell h.rbox rfl, row_cell h.rbox rfl, row_cell h.rbox rfl⟩
theorem Ob.rfree (h : Ob w W nm l A c x B cb kind inst step state part cause key name version text) (j : Nat) : W.frozen? ⟨w.heap.size + 3, j, none⟩ = false := free_of_row h.rbox
theorem Ob.filled (h : Ob w W nm l A c x B cb kind inst step state part cause key name version text) (v0 v1 v2 v3 v4 v5 v6 v7 v8 v9 v10 : Value) : Below w.heap.size w (((((((((((W.setCell ⟨w.heap.size + 3, 0, none⟩ v0).setCell ⟨w.heap.size + 3, 1, none⟩ v1).setCell ⟨w.heap.size + 3, 2, none⟩ v2).setCell ⟨w.heap.size + 3, 3, none⟩ v3).setCell ⟨w.heap.size + 3, 4, none⟩ v4).setCell ⟨w.heap.size + 3, 5, none⟩ v5).setCell ⟨w.heap.size + 3, 6, none⟩ v6).setCell ⟨w.heap.size + 3, 7, none⟩ v7).setCell ⟨w.heap.size + 3, 8, none⟩ v8).setCell ⟨w.heap.size + 3, 9, none⟩ v9).setCell ⟨w.heap.size + 3, 10, none⟩ v10) := by
 have s : ∀ (U : World) (j : Nat) (v : Value), Below w.heap.size w U → Below w.heap.size w (U.setCell ⟨w.heap.size + 3, j, none⟩ v) := fun U j v h => h.setCell (p := ⟨w.heap.size + 3, j, none⟩) (Nat.le_add_right _ _) v
 exact s _ _ _ (s _ _ _ (s _ _ _ (s _ _ _ (s _ _ _ (s _ _ _ (s _ _ _ (s _ _ _ (s _ _ _ (s _ _ _ (s _ _ _ h.below))))))))))
end
theorem Ob.far {w W : World} {nm : ByteArray} {l : List Step} {A : Option Addr} {c : Nat} {x : Inst} {B : Option Addr} {cb : Nat} {kind inst step state part cause : Int} {key name : ByteArray} {version : Int} {text : ByteArray} (h : Ob w W nm l A c x B cb kind inst step state part cause key name version text) {k j : Nat} {u : Value} (hk : w.heap.size + 4 ≤ k) : Ob w (W.setCell ⟨k, j, none⟩ u) nm l A c x B cb kind inst step state part cause key name version text :=
 ⟨h.below.setCell (p := ⟨k, j, none⟩) (show w.heap.size ≤ k by omega) _, by rw [World.size_setCell]; exact h.lt, row_setCell_ne h.dbox _ _ (show w.heap.size ≠ k by omega), row_setCell_ne h.xbox _ _ (show w.heap.size + 1 ≠ k by omega), row_setCell_ne h.nbox _ _ (show w.heap.size + 2 ≠ k by omega), row_setCell_ne h.rbox _ _ (show w.heap.size + 3 ≠ k by omega)⟩
/-- The boxes of On, and its view. -/
structure Os (w W : World) (nm : ByteArray) (l : List Step) (A : Option Addr) (c : Nat) (x : Inst) (B : Option Addr) (cb : Nat) (kind inst step state part cause : Int) (key name : ByteArray) (version : Int) (text : ByteArray) : Prop where
 ob : Ob w W nm l A c x B cb kind inst step state part cause key name version text
 vbox : W.heap[w.heap.size + 4]? = some (.cells #[.string nm, .slice A l.length c, .int .i64 x.id, .string x.key, .string x.name, .int .i64 x.version, .int .i64 x.phase, .int .i64 x.cause, .slice B x.steps.length cb, .int .i64 (x.freed 0), .int .i64 (x.freed 1), .int .i64 (x.freed 2), .int .i64 (x.freed 3)] 65 (0, 0))
section
variable {w W W2 : World} {nm : ByteArray} {l : List Step} {A : Option Addr} {c : Nat} {x : Inst} {B : Option Addr} {cb : Nat} {kind inst step state part cause : Int} {key name : ByteArray} {version : Int} {text : ByteArray}
theorem Os.on (h : Os w W nm l A c x B cb kind inst step state part cause key name version text) (hb : Below W.heap.size W W2) : Os w W2 nm l A c x B cb kind inst step state part cause key name version text := ⟨h.ob.on hb, row_on hb h.vbox⟩
theorem Os.start (nm : ByteArray) (l : List Step) (A : Option Addr) (c : Nat) (x : Inst) (B : Option Addr) (cb : Nat) (kind inst step state part cause : Int) (key name : ByteArray) (version : Int) (text : ByteArray) (w : World) : Os w (((((w.alloc (.cells #[.string nm, .slice A l.length c] 24)).alloc (.cells #[.int .i64 x.id, .string x.key, .string x.name, .int .i64 x.version, .int .i64 x.phase, .int .i64 x.cause, .slice B x.steps.length cb, .int .i64 (x.freed 0), .int .i64 (x.freed 1), .int .i64 (x.freed 2), .int .i64 (x.freed 3)] 28)).alloc (.cells #[.int .i64 kind, .int .i64 inst, .int .i64 step, .int .i64 state, .int .i64 part, .int .i64 cause, .string key, .string name, .int .i64 version, .string text] 37)).alloc (.cells #[.int .i64 0, .string ByteArray.empty, .string ByteArray.empty, .int .i64 0, .int .i64 0, .int .i64 0, .slice none 0 0, .int .i64 0, .int .i64 0, .int .i64 0, .int .i64 0] 28)).alloc (.cells #[.string nm, .slice A l.length c, .int .i64 x.id, .string x.key, .string x.name, .int .i64 x.version, .int .i64 x.phase, .int .i64 x.cause, .slice B x.steps.length cb, .int .i64 (x.freed 0), .int .i64 (x.freed 1), .int .i64 (x.freed 2), .int .i64 (x.freed 3)] 65)) nm l A c x B cb kind inst step state part cause key name version text := by
 have h1 := alloc1 ((((w.alloc (.cells #[.string nm, .slice A l.length c] 24)).alloc (.cells #[.int .i64 x.id, .string x.key, .string x.name, .int .i64 x.version, .int .i64 x.phase, .int .i64 x.cause, .slice B x.steps.length cb, .int .i64 (x.freed 0), .int .i64 (x.freed 1), .int .i64 (x.freed 2), .int .i64 (x.freed 3)] 28)).alloc (.cells #[.int .i64 kind, .int .i64 inst, .int .i64 step, .int .i64 state, .int .i64 part, .int .i64 cause, .string key, .string name, .int .i64 version, .string text] 37)).alloc (.cells #[.int .i64 0, .string ByteArray.empty, .string ByteArray.empty, .int .i64 0, .int .i64 0, .int .i64 0, .slice none 0 0, .int .i64 0, .int .i64 0, .int .i64 0, .int .i64 0] 28)) (.cells #[.string nm, .slice A l.length c, .int .i64 x.id, .string x.key, .string x.name, .int .i64 x.version, .int .i64 x.phase, .int .i64 x.cause, .slice B x.steps.length cb, .int .i64 (x.freed 0), .int .i64 (x.freed 1), .int .i64 (x.freed 2), .int .i64 (x.freed 3)] 65)
 rw [(alloc_4 w _ _ _ _).2] at h1
 exact ⟨(Ob.start nm l A c x B cb kind inst step state part cause key name version text w).on (below_one _ _), h1⟩
theorem Os.vc (h : Os w W nm l A c x B cb kind inst step state part cause key name version text) : W.cell? ⟨w.heap.size + 4, 0, none⟩ = some (.string nm) ∧ W.cell? ⟨w.heap.size + 4, 1, none⟩ = some (.slice A l.length c) ∧ W.cell? ⟨w.heap.size + 4, 2, none⟩ = some (.int .i64 x.id) ∧ W.cell? ⟨w.heap.size + 4, 3, none⟩ = some (.string x.key) ∧ W.cell? ⟨w.heap.size + 4, 4, none⟩ = some (.string x.name) ∧ W.cell? ⟨w.heap.size + 4, 5, none⟩ = some (.int .i64 x.version) ∧ W.cell? ⟨w.heap.size + 4, 6, none⟩ = some (.int .i64 x.phase) ∧ W.cell? ⟨w.heap.size + 4, 7, none⟩ = some (.int .i64 x.cause) ∧ W.cell? ⟨w.heap.size + 4, 8, none⟩ = some (.slice B x.steps.length cb) ∧ W.cell? ⟨w.heap.size + 4, 9, none⟩ = some (.int .i64 (x.freed 0)) ∧ W.cell? ⟨w.heap.size + 4, 10, none⟩ = some (.int .i64 (x.freed 1)) ∧ W.cell? ⟨w.heap.size + 4, 11, none⟩ = some (.int .i64 (x.freed 2)) ∧ W.cell? ⟨w.heap.size + 4, 12, none⟩ = some (.int .i64 (x.freed 3)) := ⟨row_cell h.vbox rfl, row_cell h.vbox rfl, row_cell h.vbox rfl, row_cell h.vbox rfl, row_cell h.vbox rfl, row_cell h.vbox rfl, row_cell h.vbox rfl, row_cell h.vbox rfl, row_cell h.vbox rfl, row_cell h.vbox rfl, row_cell h.vbox rfl, row_cell h.vbox rfl, row_cell h.vbox rfl⟩
theorem Os.vfree (h : Os w W nm l A c x B cb kind inst step state part cause key name version text) (j : Nat) : W.frozen? ⟨w.heap.size + 4, j, none⟩ = false := free_of_row h.vbox
end
set_option maxHeartbeats 16000000 in
set_option maxRecDepth 100000 in
theorem On_no (nm : ByteArray) (l : List Step) (A : Option Addr) (c : Nat) (x : Inst) (B : Option Addr) (cb : Nat) (kind inst step state part cause : Int) (key name : ByteArray) (version : Int) (text : ByteArray) (w : World) (hnm : nm.size ≤ 140737488351232) (hxk : x.key.size ≤ 140737488351232) (hS : StepsAt w A l) (hb : ∀ s ∈ l, StepB s) (hn : l.length ≤ 9000000000000) (hc : l.length ≤ c) (hT : TabsAt w) (hB : Kd.C (Kd.int .i64) w B x.steps.length x.steps) (hxs : x.steps.length ≤ 17592186044416)
 (hcd : ∀ U, Calls Tryz.prog 60 #[.agg #[.int .i64 kind, .int .i64 inst, .int .i64 step, .int .i64 state, .int .i64 part, .int .i64 cause, .string key, .string name, .int .i64 version, .string text]] U fun e U' => (∃ s ce, e = .returned (.tuple #[.string s, .int .i64 ce]) ∧ (ce != 0) = !mayNote ⟨kind, inst, step, state, part, cause, key, name, version, text⟩) ∧ Below U.heap.size U U')
 (hno : (sortL nm l x == 0 || (!mayNote ⟨kind, inst, step, state, part, cause, key, name, version, text⟩ || inst != x.id)) = true) :
 Calls Tryz.prog 23 #[.agg #[.string nm, .slice A l.length c], .agg #[.int .i64 x.id, .string x.key, .string x.name, .int .i64 x.version, .int .i64 x.phase, .int .i64 x.cause, .slice B x.steps.length cb, .int .i64 (x.freed 0), .int .i64 (x.freed 1), .int .i64 (x.freed 2), .int .i64 (x.freed 3)], .agg #[.int .i64 kind, .int .i64 inst, .int .i64 step, .int .i64 state, .int .i64 part, .int .i64 cause, .string key, .string name, .int .i64 version, .string text]] w fun e w' => e = .returned (.tuple #[instV nullX (.slice none 0 0), .int .i64 1]) ∧ Below w.heap.size w w' := by
 have HV := Aside0.mk (Os.start nm l A c x B cb kind inst step state part cause key name version text w)
 have hso := Aside0.mk (fun W (h : Below w.heap.size w W) => sort_calls nm l A c x B cb W hnm hxk (hS.below h) hb hn hc (tabs_on hT h) (Kd.C_below hB h) hxs)
 have HC := Aside0.mk hcd
 have hni : (inst != x.id) = !(inst == x.id) := rfl
 rw [hni] at hno
 clear hnm hxk hS hb hn hT hB hxs hcd
 generalize hs0 : (sortL nm l x == 0) = s0 at *
 generalize sortL nm l x = so at *
 generalize mayNote ⟨kind, inst, step, state, part, cause, key, name, version, text⟩ = mn at *
 generalize hie : (inst == x.id) = ie at *
 go_enter Tryz.func23, Tryz.ntmps23
 rcases (by cases s0 <;> cases mn <;> cases ie <;> simp_all : s0 = true ∨ (s0 = false ∧ mn = false) ∨ (s0 = false ∧ mn = true ∧ ie = false)) with rfl | ⟨rfl, rfl⟩ | ⟨rfl, rfl, rfl⟩
 all_goals
  clear hno
  (try simp only [Bool.not_true, Bool.not_false] at hni)
  go_wp2_with (first | (go_at_call 52; refine (hso.out _ HV.out.ob.below).mono ?_; rintro e w1 ⟨rfl, hb1⟩; have H1 := Aside0.mk (HV.out.on hb1); clear hb1; obtain ⟨ad0, ad1⟩ := H1.out.ob.d; obtain ⟨ax0, ax1, ax2, ax3, ax4, ax5, ax6, ax7, ax8, ax9, ax10⟩ := H1.out.ob.xc; obtain ⟨ar0, ar1, ar2, ar3, ar4, ar5, ar6, ar7, ar8, ar9, ar10⟩ := H1.out.ob.rc; obtain ⟨av0, av1, av2, av3, av4, av5, av6, av7, av8, av9, av10, av11, av12⟩ := H1.out.vc; have avf := H1.out.vfree; have af := H1.out.ob.rfree; have an : _ := (row_cell (j := 1) H1.out.ob.nbox rfl); have am0 := row_cell (j := 0) H1.out.ob.nbox rfl; have am1 := row_cell (j := 1) H1.out.ob.nbox rfl; have am2 := row_cell (j := 2) H1.out.ob.nbox rfl; have am3 := row_cell (j := 3) H1.out.ob.nbox rfl; have am4 := row_cell (j := 4) H1.out.ob.nbox rfl; have am5 := row_cell (j := 5) H1.out.ob.nbox rfl; have am6 := row_cell (j := 6) H1.out.ob.nbox rfl; have am7 := row_cell (j := 7) H1.out.ob.nbox rfl; have am8 := row_cell (j := 8) H1.out.ob.nbox rfl; have am9 := row_cell (j := 9) H1.out.ob.nbox rfl) | (go_at_call 60; refine (HC.out _).mono ?_; rintro e w2 ⟨⟨sx, ce, rfl, hce⟩, hb2⟩; (try simp only [Bool.not_true, Bool.not_false] at hce); have H2 := Aside0.mk (H1.out.on hb2); clear hb2; obtain ⟨bd0, bd1⟩ := H2.out.ob.d; obtain ⟨bx0, bx1, bx2, bx3, bx4, bx5, bx6, bx7, bx8, bx9, bx10⟩ := H2.out.ob.xc; obtain ⟨br0, br1, br2, br3, br4, br5, br6, br7, br8, br9, br10⟩ := H2.out.ob.rc; obtain ⟨bv0, bv1, bv2, bv3, bv4, bv5, bv6, bv7, bv8, bv9, bv10, bv11, bv12⟩ := H2.out.vc; have bvf := H2.out.vfree; have bf := H2.out.ob.rfree; have bn : _ := (row_cell (j := 1) H2.out.ob.nbox rfl); have bm0 := row_cell (j := 0) H2.out.ob.nbox rfl; have bm1 := row_cell (j := 1) H2.out.ob.nbox rfl; have bm2 := row_cell (j := 2) H2.out.ob.nbox rfl; have bm3 := row_cell (j := 3) H2.out.ob.nbox rfl; have bm4 := row_cell (j := 4) H2.out.ob.nbox rfl; have bm5 := row_cell (j := 5) H2.out.ob.nbox rfl; have bm6 := row_cell (j := 6) H2.out.ob.nbox rfl; have bm7 := row_cell (j := 7) H2.out.ob.nbox rfl; have bm8 := row_cell (j := 8) H2.out.ob.nbox rfl; have bm9 := row_cell (j := 9) H2.out.ob.nbox rfl))
  have hr := row11 H2.out.ob.rbox (.int .i64 0) (.string ⟨#[]⟩) (.string ⟨#[]⟩) (.int .i64 0) (.int .i64 0) (.int .i64 0) (.slice none 0 0) (.int .i64 0) (.int .i64 0) (.int .i64 0) (.int .i64 0); have hq := H2.out.ob.filled (.int .i64 0) (.string ⟨#[]⟩) (.string ⟨#[]⟩) (.int .i64 0) (.int .i64 0) (.int .i64 0) (.slice none 0 0) (.int .i64 0) (.int .i64 0) (.int .i64 0) (.int .i64 0); generalize World.setCell _ _ _ = U at hr hq ⊢; refine bodyPost_ret (results_ct rfl _ _ (w.heap.size + 3) 28 _ (0, 0) _ rfl hr Tryz.underlying28 rfl (by kernel_rfl)) rfl ?_; exact ⟨rfl, hq⟩
set_option maxHeartbeats 16000000 in
set_option maxRecDepth 100000 in
theorem On_sh (nm : ByteArray) (l : List Step) (A : Option Addr) (c : Nat) (x : Inst) (B : Option Addr) (cb : Nat) (kind inst step state part cause : Int) (key name : ByteArray) (version : Int) (text : ByteArray) (w : World) (hnm : nm.size ≤ 140737488351232) (hxk : x.key.size ≤ 140737488351232) (hS : StepsAt w A l) (hb : ∀ s ∈ l, StepB s) (hn : l.length ≤ 9000000000000) (hc : l.length ≤ c) (hT : TabsAt w) (hB : Kd.C (Kd.int .i64) w B x.steps.length x.steps) (hxs : x.steps.length ≤ 17592186044416)
 (hcd : ∀ U, Calls Tryz.prog 60 #[.agg #[.int .i64 kind, .int .i64 inst, .int .i64 step, .int .i64 state, .int .i64 part, .int .i64 cause, .string key, .string name, .int .i64 version, .string text]] U fun e U' => (∃ s ce, e = .returned (.tuple #[.string s, .int .i64 ce]) ∧ (ce != 0) = !mayNote ⟨kind, inst, step, state, part, cause, key, name, version, text⟩) ∧ Below U.heap.size U U')
 (h2 : sortL nm l x = 2) (hmay : mayNote ⟨kind, inst, step, state, part, cause, key, name, version, text⟩ = true) (hin : inst = x.id) :
 Calls Tryz.prog 23 #[.agg #[.string nm, .slice A l.length c], .agg #[.int .i64 x.id, .string x.key, .string x.name, .int .i64 x.version, .int .i64 x.phase, .int .i64 x.cause, .slice B x.steps.length cb, .int .i64 (x.freed 0), .int .i64 (x.freed 1), .int .i64 (x.freed 2), .int .i64 (x.freed 3)], .agg #[.int .i64 kind, .int .i64 inst, .int .i64 step, .int .i64 state, .int .i64 part, .int .i64 cause, .string key, .string name, .int .i64 version, .string text]] w fun e w' => e = .returned (.tuple #[instV nullX (.slice none 0 0), .int .i64 190]) ∧ Below w.heap.size w w' := by
 have HV := Aside0.mk (Os.start nm l A c x B cb kind inst step state part cause key name version text w)
 have hso := Aside0.mk (fun W (h : Below w.heap.size w W) => sort_calls nm l A c x B cb W hnm hxk (hS.below h) hb hn hc (tabs_on hT h) (Kd.C_below hB h) hxs)
 have hcl := Aside0.mk (fun W (h : Below w.heap.size w W) => cloneI_calls W B cb x.steps (Kd.C_below hB h) (by omega))
 have HC := Aside0.mk hcd
 have hni : (inst != x.id) = false := bne_eq_false_iff_eq.2 hin
 rw [h2] at hso
 rw [hmay] at HC
 clear hnm hxk hS hb hn hT hB hcd h2 hmay hin
 go_enter Tryz.func23, Tryz.ntmps23
 go_wp2_with (first | (go_at_call 52; refine (hso.out _ HV.out.ob.below).mono ?_; rintro e w1 ⟨rfl, hb1⟩; have H1 := Aside0.mk (HV.out.on hb1); clear hb1; obtain ⟨ad0, ad1⟩ := H1.out.ob.d; obtain ⟨ax0, ax1, ax2, ax3, ax4, ax5, ax6, ax7, ax8, ax9, ax10⟩ := H1.out.ob.xc; obtain ⟨ar0, ar1, ar2, ar3, ar4, ar5, ar6, ar7, ar8, ar9, ar10⟩ := H1.out.ob.rc; obtain ⟨av0, av1, av2, av3, av4, av5, av6, av7, av8, av9, av10, av11, av12⟩ := H1.out.vc; have avf := H1.out.vfree; have af := H1.out.ob.rfree; have an : _ := (row_cell (j := 1) H1.out.ob.nbox rfl); have am0 := row_cell (j := 0) H1.out.ob.nbox rfl; have am1 := row_cell (j := 1) H1.out.ob.nbox rfl; have am2 := row_cell (j := 2) H1.out.ob.nbox rfl; have am3 := row_cell (j := 3) H1.out.ob.nbox rfl; have am4 := row_cell (j := 4) H1.out.ob.nbox rfl; have am5 := row_cell (j := 5) H1.out.ob.nbox rfl; have am6 := row_cell (j := 6) H1.out.ob.nbox rfl; have am7 := row_cell (j := 7) H1.out.ob.nbox rfl; have am8 := row_cell (j := 8) H1.out.ob.nbox rfl; have am9 := row_cell (j := 9) H1.out.ob.nbox rfl) | (go_at_call 60; refine (HC.out _).mono ?_; rintro e w2 ⟨⟨sx, ce, rfl, hce⟩, hb2⟩; (try simp only [Bool.not_true, Bool.not_false] at hce); have H2 := Aside0.mk (H1.out.on hb2); clear hb2; obtain ⟨bd0, bd1⟩ := H2.out.ob.d; obtain ⟨bx0, bx1, bx2, bx3, bx4, bx5, bx6, bx7, bx8, bx9, bx10⟩ := H2.out.ob.xc; obtain ⟨br0, br1, br2, br3, br4, br5, br6, br7, br8, br9, br10⟩ := H2.out.ob.rc; obtain ⟨bv0, bv1, bv2, bv3, bv4, bv5, bv6, bv7, bv8, bv9, bv10, bv11, bv12⟩ := H2.out.vc; have bvf := H2.out.vfree; have bf := H2.out.ob.rfree; have bn : _ := (row_cell (j := 1) H2.out.ob.nbox rfl); have bm0 := row_cell (j := 0) H2.out.ob.nbox rfl; have bm1 := row_cell (j := 1) H2.out.ob.nbox rfl; have bm2 := row_cell (j := 2) H2.out.ob.nbox rfl; have bm3 := row_cell (j := 3) H2.out.ob.nbox rfl; have bm4 := row_cell (j := 4) H2.out.ob.nbox rfl; have bm5 := row_cell (j := 5) H2.out.ob.nbox rfl; have bm6 := row_cell (j := 6) H2.out.ob.nbox rfl; have bm7 := row_cell (j := 7) H2.out.ob.nbox rfl; have bm8 := row_cell (j := 8) H2.out.ob.nbox rfl; have bm9 := row_cell (j := 9) H2.out.ob.nbox rfl) | (go_at_call 61; refine (hcl.out _ H2.out.ob.below).mono ?_; rintro e w3 ⟨v3, rfl, ho3, hb3⟩; obtain ⟨A3, c3, rfl, _, _⟩ := ho3.reads; have H3 := Aside0.mk (H2.out.on hb3); have P3 := Aside0.mk (And.intro ho3 hb3); clear ho3 hb3; obtain ⟨cx0, cx1, cx2, cx3, cx4, cx5, cx6, cx7, cx8, cx9, cx10⟩ := H3.out.ob.xc; obtain ⟨cr0, cr1, cr2, cr3, cr4, cr5, cr6, cr7, cr8, cr9, cr10⟩ := H3.out.ob.rc; obtain ⟨cv0, cv1, cv2, cv3, cv4, cv5, cv6, cv7, cv8, cv9, cv10, cv11, cv12⟩ := H3.out.vc; have cvf := H3.out.vfree; have cf := H3.out.ob.rfree))
 have hX := H3.out.ob.far (j := 8) (u := .slice A3 x.steps.length c3) (Nat.le_refl _)
 generalize World.setCell w3 _ _ = u3 at *
 have hr := row11 hX.rbox (.int .i64 0) (.string ⟨#[]⟩) (.string ⟨#[]⟩) (.int .i64 0) (.int .i64 0) (.int .i64 0) (.slice none 0 0) (.int .i64 0) (.int .i64 0) (.int .i64 0) (.int .i64 0)
 have hq := hX.filled (.int .i64 0) (.string ⟨#[]⟩) (.string ⟨#[]⟩) (.int .i64 0) (.int .i64 0) (.int .i64 0) (.slice none 0 0) (.int .i64 0) (.int .i64 0) (.int .i64 0) (.int .i64 0)
 generalize World.setCell _ _ _ = U at hr hq ⊢
 refine bodyPost_ret (results_ct rfl _ _ (w.heap.size + 3) 28 _ (0, 0) _ rfl hr Tryz.underlying28 rfl (by kernel_rfl)) rfl ?_
 exact ⟨rfl, hq⟩
end Go.Proofs.YtgjddnaidjbhlaaGreatDoor.Ph

/- phase.On, of one that is open (P19): walked by hand. -/
namespace Go.Proofs.YtgjddnaidjbhlaaGreatDoor.Ph
open Go.RowKit Go.IntWalk Go.Proofs.YtgjddnaidjbhlaaGreatDoorW.PrintWords Go.Proofs.YtgjddnaidjbhlaaGreatDoorW.PrintLast Go.Proofs.YtgjddnaidjbhlaaGreatDoorW.PrintMore Go.Proofs.YtgjddnaidjbhlaaGreatDoor.PlName Go.Proofs.YtgjddnaidjbhlaaGreatDoor.Pl

theorem own_from {W : World} {lo lo' p : Nat} {A3 : Option Addr} {n c3 : Nat} {xs : List Int} (h : OwnI W lo (.slice A3 n c3) xs) (hle : lo' ≤ lo) (hp : p < lo) : OwnI W lo' (.slice A3 n c3) xs ∧ ∀ b, A3 = some b → b.block ≠ p := by
 refine ⟨⟨h.1, ?_⟩, fun b e => ?_⟩
 · rcases h.2 with hn | ⟨g, cap, cur, e, h1, rest⟩
   · exact .inl hn
   · exact .inr ⟨g, cap, cur, e, Nat.le_trans hle h1, rest⟩
 · have := (World.ownsRow.lt h b.block (by rw [e]; rfl)).1
   omega
theorem own_fill {w W : World} {lo : Nat} {B : Option Addr} {n cb : Nat} {xs : List Int} (h : OwnI W lo (.slice B n cb) xs) (hlo : w.heap.size + 4 ≤ lo) (v0 v1 v2 v3 v4 v5 v6 v7 v8 v9 v10 : Value) : OwnI (((((((((((W.setCell ⟨w.heap.size + 3, 0, none⟩ v0).setCell ⟨w.heap.size + 3, 1, none⟩ v1).setCell ⟨w.heap.size + 3, 2, none⟩ v2).setCell ⟨w.heap.size + 3, 3, none⟩ v3).setCell ⟨w.heap.size + 3, 4, none⟩ v4).setCell ⟨w.heap.size + 3, 5, none⟩ v5).setCell ⟨w.heap.size + 3, 6, none⟩ v6).setCell ⟨w.heap.size + 3, 7, none⟩ v7).setCell ⟨w.heap.size + 3, 8, none⟩ v8).setCell ⟨w.heap.size + 3, 9, none⟩ v9).setCell ⟨w.heap.size + 3, 10, none⟩ v10) w.heap.size (.slice B n cb) xs := by
 obtain ⟨h0, hne⟩ := own_from h (show w.heap.size ≤ lo by omega) (show w.heap.size + 3 < lo by omega)
 have s : ∀ (U : World) (j : Nat) (v : Value), OwnI U w.heap.size (.slice B n cb) xs → OwnI (U.setCell ⟨w.heap.size + 3, j, none⟩ v) w.heap.size (.slice B n cb) xs := fun U j v h2 => own_ne h2 hne
 exact s _ _ _ (s _ _ _ (s _ _ _ (s _ _ _ (s _ _ _ (s _ _ _ (s _ _ _ (s _ _ _ (s _ _ _ (s _ _ _ (s _ _ _ h0))))))))))
set_option maxHeartbeats 16000000 in
set_option maxRecDepth 100000 in
theorem On_open (nm : ByteArray) (l : List Step) (A : Option Addr) (c : Nat) (x : Inst) (B : Option Addr) (cb : Nat) (kind inst step state part cause : Int) (key name : ByteArray) (version : Int) (text : ByteArray) (w : World) (hnm : nm.size ≤ 140737488351232) (hxk : x.key.size ≤ 140737488351232) (hS : StepsAt w A l) (hb : ∀ s ∈ l, StepB s) (hn : l.length ≤ 9000000000000) (hc : l.length ≤ c) (hT : TabsAt w) (hB : Kd.C (Kd.int .i64) w B x.steps.length x.steps) (hxs : x.steps.length ≤ 17592186044416)
 (hcd : ∀ U, Calls Tryz.prog 60 #[.agg #[.int .i64 kind, .int .i64 inst, .int .i64 step, .int .i64 state, .int .i64 part, .int .i64 cause, .string key, .string name, .int .i64 version, .string text]] U fun e U' => (∃ s ce, e = .returned (.tuple #[.string s, .int .i64 ce]) ∧ (ce != 0) = !mayNote ⟨kind, inst, step, state, part, cause, key, name, version, text⟩) ∧ Below U.heap.size U U')
 (h1 : sortL nm l x = 1) (hmay : mayNote ⟨kind, inst, step, state, part, cause, key, name, version, text⟩ = true) (hin : inst = x.id)
 (hbr : kind = 9 → ∀ (w0 U : World) (p : Nat) (B' : Option Addr) (cb' : Nat), Below w.heap.size w w0 → Bx w0 U p nm l A c x B' cb' → Calls Tryz.prog 131 #[.pointer (some ⟨p, 0, none⟩), .agg #[.int .i64 kind, .int .i64 inst, .int .i64 step, .int .i64 state, .int .i64 part, .int .i64 cause, .string key, .string name, .int .i64 version, .string text]] U fun e W' => OnRes w0 W' p nm l A c (briefX nm l x state cause) e) :
 Calls Tryz.prog 23 #[.agg #[.string nm, .slice A l.length c], .agg #[.int .i64 x.id, .string x.key, .string x.name, .int .i64 x.version, .int .i64 x.phase, .int .i64 x.cause, .slice B x.steps.length cb, .int .i64 (x.freed 0), .int .i64 (x.freed 1), .int .i64 (x.freed 2), .int .i64 (x.freed 3)], .agg #[.int .i64 kind, .int .i64 inst, .int .i64 step, .int .i64 state, .int .i64 part, .int .i64 cause, .string key, .string name, .int .i64 version, .string text]] w fun e w' => (match onX nm l x ⟨kind, inst, step, state, part, cause, key, name, version, text⟩ with | none => e = .returned (.tuple #[instV nullX (.slice none 0 0), .int .i64 190]) | some y => ∃ v, e = .returned (.tuple #[instV y v, .int .i64 0]) ∧ OwnI w' w.heap.size v y.steps) ∧ Below w.heap.size w w' := by
 have HV := Aside0.mk (Os.start nm l A c x B cb kind inst step state part cause key name version text w)
 have hB4 := (Ob.start nm l A c x B cb kind inst step state part cause key name version text w).below
 obtain ⟨hhd, hx, _, _, _⟩ := sort_open h1
 have hok := headOk_def hhd
 have hso := Aside0.mk (fun W (h : Below w.heap.size w W) => sort_calls nm l A c x B cb W hnm hxk (hS.below h) hb hn hc (tabs_on hT h) (Kd.C_below hB h) hxs)
 have hcl := Aside0.mk (fun W (h : Below w.heap.size w W) => cloneI_calls W B cb x.steps (Kd.C_below hB h) (by omega))
 have HMK : Aside0 (∀ (W : World) (A3 : Option Addr) (c3 : Nat), Os w W nm l A c x B cb kind inst step state part cause key name version text → Below ((((w.alloc (.cells #[.string nm, .slice A l.length c] 24)).alloc (.cells #[.int .i64 x.id, .string x.key, .string x.name, .int .i64 x.version, .int .i64 x.phase, .int .i64 x.cause, .slice B x.steps.length cb, .int .i64 (x.freed 0), .int .i64 (x.freed 1), .int .i64 (x.freed 2), .int .i64 (x.freed 3)] 28)).alloc (.cells #[.int .i64 kind, .int .i64 inst, .int .i64 step, .int .i64 state, .int .i64 part, .int .i64 cause, .string key, .string name, .int .i64 version, .string text] 37)).alloc (.cells #[.int .i64 0, .string ByteArray.empty, .string ByteArray.empty, .int .i64 0, .int .i64 0, .int .i64 0, .slice none 0 0, .int .i64 0, .int .i64 0, .int .i64 0, .int .i64 0] 28)).heap.size ((((w.alloc (.cells #[.string nm, .slice A l.length c] 24)).alloc (.cells #[.int .i64 x.id, .string x.key, .string x.name, .int .i64 x.version, .int .i64 x.phase, .int .i64 x.cause, .slice B x.steps.length cb, .int .i64 (x.freed 0), .int .i64 (x.freed 1), .int .i64 (x.freed 2), .int .i64 (x.freed 3)] 28)).alloc (.cells #[.int .i64 kind, .int .i64 inst, .int .i64 step, .int .i64 state, .int .i64 part, .int .i64 cause, .string key, .string name, .int .i64 version, .string text] 37)).alloc (.cells #[.int .i64 0, .string ByteArray.empty, .string ByteArray.empty, .int .i64 0, .int .i64 0, .int .i64 0, .slice none 0 0, .int .i64 0, .int .i64 0, .int .i64 0, .int .i64 0] 28)) W → (OwnI W ((((w.alloc (.cells #[.string nm, .slice A l.length c] 24)).alloc (.cells #[.int .i64 x.id, .string x.key, .string x.name, .int .i64 x.version, .int .i64 x.phase, .int .i64 x.cause, .slice B x.steps.length cb, .int .i64 (x.freed 0), .int .i64 (x.freed 1), .int .i64 (x.freed 2), .int .i64 (x.freed 3)] 28)).alloc (.cells #[.int .i64 kind, .int .i64 inst, .int .i64 step, .int .i64 state, .int .i64 part, .int .i64 cause, .string key, .string name, .int .i64 version, .string text] 37)).alloc (.cells #[.int .i64 0, .string ByteArray.empty, .string ByteArray.empty, .int .i64 0, .int .i64 0, .int .i64 0, .slice none 0 0, .int .i64 0, .int .i64 0, .int .i64 0, .int .i64 0] 28)).heap.size (.slice A3 x.steps.length c3) x.steps ∧ ∀ b, A3 = some b → b.block ≠ w.heap.size + 4) → Bx ((((w.alloc (.cells #[.string nm, .slice A l.length c] 24)).alloc (.cells #[.int .i64 x.id, .string x.key, .string x.name, .int .i64 x.version, .int .i64 x.phase, .int .i64 x.cause, .slice B x.steps.length cb, .int .i64 (x.freed 0), .int .i64 (x.freed 1), .int .i64 (x.freed 2), .int .i64 (x.freed 3)] 28)).alloc (.cells #[.int .i64 kind, .int .i64 inst, .int .i64 step, .int .i64 state, .int .i64 part, .int .i64 cause, .string key, .string name, .int .i64 version, .string text] 37)).alloc (.cells #[.int .i64 0, .string ByteArray.empty, .string ByteArray.empty, .int .i64 0, .int .i64 0, .int .i64 0, .slice none 0 0, .int .i64 0, .int .i64 0, .int .i64 0, .int .i64 0] 28)) (W.setCell ⟨w.heap.size + 4, 8, none⟩ (.slice A3 x.steps.length c3)) (w.heap.size + 4) nm l A c x A3 c3) := ⟨fun W A3 c3 ho hbl hown =>
  ⟨hbl.setCell (p := ⟨w.heap.size + 4, 8, none⟩) (Nat.le_of_eq (alloc_4 w _ _ _ _).2) _, by rw [row_setCell ho.vbox]; simp, Nat.le_of_eq (alloc_4 w _ _ _ _).2, own_ne hown.1 hown.2, hown.2⟩⟩
 have hon := Aside0.mk (fun (U : World) (B3 : Option Addr) (c3 : Nat) (h : Bx ((((w.alloc (.cells #[.string nm, .slice A l.length c] 24)).alloc (.cells #[.int .i64 x.id, .string x.key, .string x.name, .int .i64 x.version, .int .i64 x.phase, .int .i64 x.cause, .slice B x.steps.length cb, .int .i64 (x.freed 0), .int .i64 (x.freed 1), .int .i64 (x.freed 2), .int .i64 (x.freed 3)] 28)).alloc (.cells #[.int .i64 kind, .int .i64 inst, .int .i64 step, .int .i64 state, .int .i64 part, .int .i64 cause, .string key, .string name, .int .i64 version, .string text] 37)).alloc (.cells #[.int .i64 0, .string ByteArray.empty, .string ByteArray.empty, .int .i64 0, .int .i64 0, .int .i64 0, .slice none 0 0, .int .i64 0, .int .i64 0, .int .i64 0, .int .i64 0] 28)) U (w.heap.size + 4) nm l A c x B3 c3) => on_calls kind inst step state part cause key name version text h hok hnm (hS.below hB4) hb hc (tabs_on hT hB4) hx hmay (fun h9 U' h' => hbr h9 _ U' _ _ _ hB4 h'))
 have HC := Aside0.mk hcd
 have hni : (inst != x.id) = false := bne_eq_false_iff_eq.2 hin
 rw [h1] at hso
 rw [hmay] at HC
 clear hnm hxk hS hb hn hT hB hcd h1 hmay hin hbr hok hhd hx hB4
 generalize onX nm l x ⟨kind, inst, step, state, part, cause, key, name, version, text⟩ = oo at *
 go_enter Tryz.func23, Tryz.ntmps23
 rcases oo with _ | y
 · go_wp2_with (first | (go_at_call 62; refine (hon.out _ _ _ HBX.out).mono ?_; rintro e w6 ⟨rfl, hb6, hy6⟩; have Y6 := Aside0.mk (And.intro hb6 hy6); have H6 := Aside0.mk ((Ob.start nm l A c x B cb kind inst step state part cause key name version text w).on hb6); clear hb6 hy6; obtain ⟨er0, er1, er2, er3, er4, er5, er6, er7, er8, er9, er10⟩ := H6.out.rc; have ef := H6.out.rfree) | (go_at_call 52; refine (hso.out _ HV.out.ob.below).mono ?_; rintro e w1 ⟨rfl, hb1⟩; have H1 := Aside0.mk (HV.out.on hb1); have Q1 := Aside0.mk (on_ (below_one ((((w.alloc (.cells #[.string nm, .slice A l.length c] 24)).alloc (.cells #[.int .i64 x.id, .string x.key, .string x.name, .int .i64 x.version, .int .i64 x.phase, .int .i64 x.cause, .slice B x.steps.length cb, .int .i64 (x.freed 0), .int .i64 (x.freed 1), .int .i64 (x.freed 2), .int .i64 (x.freed 3)] 28)).alloc (.cells #[.int .i64 kind, .int .i64 inst, .int .i64 step, .int .i64 state, .int .i64 part, .int .i64 cause, .string key, .string name, .int .i64 version, .string text] 37)).alloc (.cells #[.int .i64 0, .string ByteArray.empty, .string ByteArray.empty, .int .i64 0, .int .i64 0, .int .i64 0, .slice none 0 0, .int .i64 0, .int .i64 0, .int .i64 0, .int .i64 0] 28)) _) hb1); clear hb1; obtain ⟨ad0, ad1⟩ := H1.out.ob.d; obtain ⟨ax0, ax1, ax2, ax3, ax4, ax5, ax6, ax7, ax8, ax9, ax10⟩ := H1.out.ob.xc; obtain ⟨ar0, ar1, ar2, ar3, ar4, ar5, ar6, ar7, ar8, ar9, ar10⟩ := H1.out.ob.rc; obtain ⟨av0, av1, av2, av3, av4, av5, av6, av7, av8, av9, av10, av11, av12⟩ := H1.out.vc; have avf := H1.out.vfree; have af := H1.out.ob.rfree; have an : _ := (row_cell (j := 1) H1.out.ob.nbox rfl); have am0 := row_cell (j := 0) H1.out.ob.nbox rfl; have am1 := row_cell (j := 1) H1.out.ob.nbox rfl; have am2 := row_cell (j := 2) H1.out.ob.nbox rfl; have am3 := row_cell (j := 3) H1.out.ob.nbox rfl; have am4 := row_cell (j := 4) H1.out.ob.nbox rfl; have am5 := row_cell (j := 5) H1.out.ob.nbox rfl; have am6 := row_cell (j := 6) H1.out.ob.nbox rfl; have am7 := row_cell (j := 7) H1.out.ob.nbox rfl; have am8 := row_cell (j := 8) H1.out.ob.nbox rfl; have am9 := row_cell (j := 9) H1.out.ob.nbox rfl) | (go_at_call 60; refine (HC.out _).mono ?_; rintro e w2 ⟨⟨sx, ce, rfl, hce⟩, hb2⟩; (try simp only [Bool.not_true, Bool.not_false] at hce); have H2 := Aside0.mk (H1.out.on hb2); have Q2 := Aside0.mk (on_ Q1.out hb2); clear hb2; obtain ⟨bd0, bd1⟩ := H2.out.ob.d; obtain ⟨bx0, bx1, bx2, bx3, bx4, bx5, bx6, bx7, bx8, bx9, bx10⟩ := H2.out.ob.xc; obtain ⟨br0, br1, br2, br3, br4, br5, br6, br7, br8, br9, br10⟩ := H2.out.ob.rc; obtain ⟨bv0, bv1, bv2, bv3, bv4, bv5, bv6, bv7, bv8, bv9, bv10, bv11, bv12⟩ := H2.out.vc; have bvf := H2.out.vfree; have bf := H2.out.ob.rfree; have bn : _ := (row_cell (j := 1) H2.out.ob.nbox rfl); have bm0 := row_cell (j := 0) H2.out.ob.nbox rfl; have bm1 := row_cell (j := 1) H2.out.ob.nbox rfl; have bm2 := row_cell (j := 2) H2.out.ob.nbox rfl; have bm3 := row_cell (j := 3) H2.out.ob.nbox rfl; have bm4 := row_cell (j := 4) H2.out.ob.nbox rfl; have bm5 := row_cell (j := 5) H2.out.ob.nbox rfl; have bm6 := row_cell (j := 6) H2.out.ob.nbox rfl; have bm7 := row_cell (j := 7) H2.out.ob.nbox rfl; have bm8 := row_cell (j := 8) H2.out.ob.nbox rfl; have bm9 := row_cell (j := 9) H2.out.ob.nbox rfl) | (go_at_call 61; refine (hcl.out _ H2.out.ob.below).mono ?_; rintro e w3 ⟨v3, rfl, ho3, hb3⟩; obtain ⟨A3, c3, rfl, _, _⟩ := ho3.reads; have H3 := Aside0.mk (H2.out.on hb3); have Q3 := Aside0.mk (on_ Q2.out hb3); have HBX := Aside0.mk (HMK.out _ _ _ H3.out Q3.out (own_from ho3 (Nat.le_trans Q2.out.size (Nat.le_refl _)) (show w.heap.size + 4 < w2.heap.size from (Array.getElem?_eq_some_iff.1 H2.out.vbox).1))); have P3 := Aside0.mk (And.intro ho3 hb3); clear ho3 hb3; obtain ⟨cx0, cx1, cx2, cx3, cx4, cx5, cx6, cx7, cx8, cx9, cx10⟩ := H3.out.ob.xc; obtain ⟨cr0, cr1, cr2, cr3, cr4, cr5, cr6, cr7, cr8, cr9, cr10⟩ := H3.out.ob.rc; obtain ⟨cv0, cv1, cv2, cv3, cv4, cv5, cv6, cv7, cv8, cv9, cv10, cv11, cv12⟩ := H3.out.vc; have cvf := H3.out.vfree; have cf := H3.out.ob.rfree; have cm0 := row_cell (j := 0) H3.out.ob.nbox rfl; have cm1 := row_cell (j := 1) H3.out.ob.nbox rfl; have cm2 := row_cell (j := 2) H3.out.ob.nbox rfl; have cm3 := row_cell (j := 3) H3.out.ob.nbox rfl; have cm4 := row_cell (j := 4) H3.out.ob.nbox rfl; have cm5 := row_cell (j := 5) H3.out.ob.nbox rfl; have cm6 := row_cell (j := 6) H3.out.ob.nbox rfl; have cm7 := row_cell (j := 7) H3.out.ob.nbox rfl; have cm8 := row_cell (j := 8) H3.out.ob.nbox rfl; have cm9 := row_cell (j := 9) H3.out.ob.nbox rfl))
   have hr := row11 H6.out.rbox (.int .i64 0) (.string ⟨#[]⟩) (.string ⟨#[]⟩) (.int .i64 0) (.int .i64 0) (.int .i64 0) (.slice none 0 0) (.int .i64 0) (.int .i64 0) (.int .i64 0) (.int .i64 0)
   have hq := H6.out.filled (.int .i64 0) (.string ⟨#[]⟩) (.string ⟨#[]⟩) (.int .i64 0) (.int .i64 0) (.int .i64 0) (.slice none 0 0) (.int .i64 0) (.int .i64 0) (.int .i64 0) (.int .i64 0)
   generalize World.setCell _ _ _ = U at hr hq ⊢
   refine bodyPost_ret (results_ct rfl _ _ (w.heap.size + 3) 28 _ (0, 0) _ rfl hr Tryz.underlying28 rfl (by kernel_rfl)) rfl ?_
   exact ⟨rfl, hq⟩
 · go_wp2_with (first | (go_at_call 62; refine (hon.out _ _ _ HBX.out).mono ?_; rintro e w6 ⟨rfl, hb6, hy6⟩; have Y6 := Aside0.mk (And.intro hb6 hy6); have H6 := Aside0.mk ((Ob.start nm l A c x B cb kind inst step state part cause key name version text w).on hb6); obtain ⟨B6, c6, hx6⟩ := hy6 y rfl; have X6 := Aside0.mk hx6; obtain ⟨ey0, ey1, ey2, ey3, ey4, ey5, ey6, ey7, ey8, ey9, ey10, ey11, ey12⟩ := hx6.cells; clear hb6 hy6 hx6; obtain ⟨er0, er1, er2, er3, er4, er5, er6, er7, er8, er9, er10⟩ := H6.out.rc; have ef := H6.out.rfree) | (go_at_call 52; refine (hso.out _ HV.out.ob.below).mono ?_; rintro e w1 ⟨rfl, hb1⟩; have H1 := Aside0.mk (HV.out.on hb1); have Q1 := Aside0.mk (on_ (below_one ((((w.alloc (.cells #[.string nm, .slice A l.length c] 24)).alloc (.cells #[.int .i64 x.id, .string x.key, .string x.name, .int .i64 x.version, .int .i64 x.phase, .int .i64 x.cause, .slice B x.steps.length cb, .int .i64 (x.freed 0), .int .i64 (x.freed 1), .int .i64 (x.freed 2), .int .i64 (x.freed 3)] 28)).alloc (.cells #[.int .i64 kind, .int .i64 inst, .int .i64 step, .int .i64 state, .int .i64 part, .int .i64 cause, .string key, .string name, .int .i64 version, .string text] 37)).alloc (.cells #[.int .i64 0, .string ByteArray.empty, .string ByteArray.empty, .int .i64 0, .int .i64 0, .int .i64 0, .slice none 0 0, .int .i64 0, .int .i64 0, .int .i64 0, .int .i64 0] 28)) _) hb1); clear hb1; obtain ⟨ad0, ad1⟩ := H1.out.ob.d; obtain ⟨ax0, ax1, ax2, ax3, ax4, ax5, ax6, ax7, ax8, ax9, ax10⟩ := H1.out.ob.xc; obtain ⟨ar0, ar1, ar2, ar3, ar4, ar5, ar6, ar7, ar8, ar9, ar10⟩ := H1.out.ob.rc; obtain ⟨av0, av1, av2, av3, av4, av5, av6, av7, av8, av9, av10, av11, av12⟩ := H1.out.vc; have avf := H1.out.vfree; have af := H1.out.ob.rfree; have an : _ := (row_cell (j := 1) H1.out.ob.nbox rfl); have am0 := row_cell (j := 0) H1.out.ob.nbox rfl; have am1 := row_cell (j := 1) H1.out.ob.nbox rfl; have am2 := row_cell (j := 2) H1.out.ob.nbox rfl; have am3 := row_cell (j := 3) H1.out.ob.nbox rfl; have am4 := row_cell (j := 4) H1.out.ob.nbox rfl; have am5 := row_cell (j := 5) H1.out.ob.nbox rfl; have am6 := row_cell (j := 6) H1.out.ob.nbox rfl; have am7 := row_cell (j := 7) H1.out.ob.nbox rfl; have am8 := row_cell (j := 8) H1.out.ob.nbox rfl; have am9 := row_cell (j := 9) H1.out.ob.nbox rfl) | (go_at_call 60; refine (HC.out _).mono ?_; rintro e w2 ⟨⟨sx, ce, rfl, hce⟩, hb2⟩; (try simp only [Bool.not_true, Bool.not_false] at hce); have H2 := Aside0.mk (H1.out.on hb2); have Q2 := Aside0.mk (on_ Q1.out hb2); clear hb2; obtain ⟨bd0, bd1⟩ := H2.out.ob.d; obtain ⟨bx0, bx1, bx2, bx3, bx4, bx5, bx6, bx7, bx8, bx9, bx10⟩ := H2.out.ob.xc; obtain ⟨br0, br1, br2, br3, br4, br5, br6, br7, br8, br9, br10⟩ := H2.out.ob.rc; obtain ⟨bv0, bv1, bv2, bv3, bv4, bv5, bv6, bv7, bv8, bv9, bv10, bv11, bv12⟩ := H2.out.vc; have bvf := H2.out.vfree; have bf := H2.out.ob.rfree; have bn : _ := (row_cell (j := 1) H2.out.ob.nbox rfl); have bm0 := row_cell (j := 0) H2.out.ob.nbox rfl; have bm1 := row_cell (j := 1) H2.out.ob.nbox rfl; have bm2 := row_cell (j := 2) H2.out.ob.nbox rfl; have bm3 := row_cell (j := 3) H2.out.ob.nbox rfl; have bm4 := row_cell (j := 4) H2.out.ob.nbox rfl; have bm5 := row_cell (j := 5) H2.out.ob.nbox rfl; have bm6 := row_cell (j := 6) H2.out.ob.nbox rfl; have bm7 := row_cell (j := 7) H2.out.ob.nbox rfl; have bm8 := row_cell (j := 8) H2.out.ob.nbox rfl; have bm9 := row_cell (j := 9) H2.out.ob.nbox rfl) | (go_at_call 61; refine (hcl.out _ H2.out.ob.below).mono ?_; rintro e w3 ⟨v3, rfl, ho3, hb3⟩; obtain ⟨A3, c3, rfl, _, _⟩ := ho3.reads; have H3 := Aside0.mk (H2.out.on hb3); have Q3 := Aside0.mk (on_ Q2.out hb3); have HBX := Aside0.mk (HMK.out _ _ _ H3.out Q3.out (own_from ho3 (Nat.le_trans Q2.out.size (Nat.le_refl _)) (show w.heap.size + 4 < w2.heap.size from (Array.getElem?_eq_some_iff.1 H2.out.vbox).1))); have P3 := Aside0.mk (And.intro ho3 hb3); clear ho3 hb3; obtain ⟨cx0, cx1, cx2, cx3, cx4, cx5, cx6, cx7, cx8, cx9, cx10⟩ := H3.out.ob.xc; obtain ⟨cr0, cr1, cr2, cr3, cr4, cr5, cr6, cr7, cr8, cr9, cr10⟩ := H3.out.ob.rc; obtain ⟨cv0, cv1, cv2, cv3, cv4, cv5, cv6, cv7, cv8, cv9, cv10, cv11, cv12⟩ := H3.out.vc; have cvf := H3.out.vfree; have cf := H3.out.ob.rfree; have cm0 := row_cell (j := 0) H3.out.ob.nbox rfl; have cm1 := row_cell (j := 1) H3.out.ob.nbox rfl; have cm2 := row_cell (j := 2) H3.out.ob.nbox rfl; have cm3 := row_cell (j := 3) H3.out.ob.nbox rfl; have cm4 := row_cell (j := 4) H3.out.ob.nbox rfl; have cm5 := row_cell (j := 5) H3.out.ob.nbox rfl; have cm6 := row_cell (j := 6) H3.out.ob.nbox rfl; have cm7 := row_cell (j := 7) H3.out.ob.nbox rfl; have cm8 := row_cell (j := 8) H3.out.ob.nbox rfl; have cm9 := row_cell (j := 9) H3.out.ob.nbox rfl))
   have hr := row11 H6.out.rbox (.int .i64 y.id) (.string y.key) (.string y.name) (.int .i64 y.version) (.int .i64 y.phase) (.int .i64 y.cause) (.slice B6 y.steps.length c6) (.int .i64 (y.freed 0)) (.int .i64 (y.freed 1)) (.int .i64 (y.freed 2)) (.int .i64 (y.freed 3))
   have hq := H6.out.filled (.int .i64 y.id) (.string y.key) (.string y.name) (.int .i64 y.version) (.int .i64 y.phase) (.int .i64 y.cause) (.slice B6 y.steps.length c6) (.int .i64 (y.freed 0)) (.int .i64 (y.freed 1)) (.int .i64 (y.freed 2)) (.int .i64 (y.freed 3))
   have ho := own_fill (w := w) X6.out.own (Nat.le_of_eq (alloc_4 w _ _ _ _).2.symm) (.int .i64 y.id) (.string y.key) (.string y.name) (.int .i64 y.version) (.int .i64 y.phase) (.int .i64 y.cause) (.slice B6 y.steps.length c6) (.int .i64 (y.freed 0)) (.int .i64 (y.freed 1)) (.int .i64 (y.freed 2)) (.int .i64 (y.freed 3))
   generalize World.setCell _ _ _ = U at hr hq ho ⊢
   refine bodyPost_ret (results_ct rfl _ _ (w.heap.size + 3) 28 _ (0, 0) _ rfl hr Tryz.underlying28 rfl (by kernel_rfl)) rfl ?_
   exact ⟨⟨_, rfl, ho⟩, hq⟩
end Go.Proofs.YtgjddnaidjbhlaaGreatDoor.Ph

/- phase.On (P19): what it answers. -/
namespace Go.Proofs.YtgjddnaidjbhlaaGreatDoor.Ph
open Go.RowKit Go.IntWalk Go.Proofs.YtgjddnaidjbhlaaGreatDoorW.PrintWords Go.Proofs.YtgjddnaidjbhlaaGreatDoorW.PrintLast Go.Proofs.YtgjddnaidjbhlaaGreatDoorW.PrintMore Go.Proofs.YtgjddnaidjbhlaaGreatDoor.PlName Go.Proofs.YtgjddnaidjbhlaaGreatDoor.Pl

theorem sort_three (nm : ByteArray) (l : List Step) (x : Inst) : sortL nm l x = 0 ∨ sortL nm l x = 1 ∨ sortL nm l x = 2 := by
 unfold sortL
 repeat' split
 all_goals simp
theorem On_calls (nm : ByteArray) (l : List Step) (A : Option Addr) (c : Nat) (x : Inst) (B : Option Addr) (cb : Nat) (kind inst step state part cause : Int) (key name : ByteArray) (version : Int) (text : ByteArray) (w : World) (hnm : nm.size ≤ 140737488351232) (hxk : x.key.size ≤ 140737488351232) (hS : StepsAt w A l) (hb : ∀ s ∈ l, StepB s) (hn : l.length ≤ 9000000000000) (hc : l.length ≤ c) (hT : TabsAt w) (hB : Kd.C (Kd.int .i64) w B x.steps.length x.steps) (hxs : x.steps.length ≤ 17592186044416)
 (hcd : ∀ U, Calls Tryz.prog 60 #[.agg #[.int .i64 kind, .int .i64 inst, .int .i64 step, .int .i64 state, .int .i64 part, .int .i64 cause, .string key, .string name, .int .i64 version, .string text]] U fun e U' => (∃ s ce, e = .returned (.tuple #[.string s, .int .i64 ce]) ∧ (ce != 0) = !mayNote ⟨kind, inst, step, state, part, cause, key, name, version, text⟩) ∧ Below U.heap.size U U')
 (hbr : kind = 9 → ∀ (w0 U : World) (p : Nat) (B' : Option Addr) (cb' : Nat), Below w.heap.size w w0 → Bx w0 U p nm l A c x B' cb' → Calls Tryz.prog 131 #[.pointer (some ⟨p, 0, none⟩), .agg #[.int .i64 kind, .int .i64 inst, .int .i64 step, .int .i64 state, .int .i64 part, .int .i64 cause, .string key, .string name, .int .i64 version, .string text]] U fun e W' => OnRes w0 W' p nm l A c (briefX nm l x state cause) e) :
 Calls Tryz.prog 23 #[.agg #[.string nm, .slice A l.length c], .agg #[.int .i64 x.id, .string x.key, .string x.name, .int .i64 x.version, .int .i64 x.phase, .int .i64 x.cause, .slice B x.steps.length cb, .int .i64 (x.freed 0), .int .i64 (x.freed 1), .int .i64 (x.freed 2), .int .i64 (x.freed 3)], .agg #[.int .i64 kind, .int .i64 inst, .int .i64 step, .int .i64 state, .int .i64 part, .int .i64 cause, .string key, .string name, .int .i64 version, .string text]] w fun e w' => (∃ v, e = .returned (.tuple #[instV (onTop nm l x ⟨kind, inst, step, state, part, cause, key, name, version, text⟩).1 v, .int .i64 (onTop nm l x ⟨kind, inst, step, state, part, cause, key, name, version, text⟩).2]) ∧ OwnI w' w.heap.size v (onTop nm l x ⟨kind, inst, step, state, part, cause, key, name, version, text⟩).1.steps) ∧ Below w.heap.size w w' := by
 unfold onTop
 cases hh : (sortL nm l x == 0 || (!mayNote ⟨kind, inst, step, state, part, cause, key, name, version, text⟩ || inst != x.id))
 · rw [Bool.or_eq_false_iff, Bool.or_eq_false_iff] at hh
   obtain ⟨h0, h1, h2⟩ := hh
   have hmay : mayNote ⟨kind, inst, step, state, part, cause, key, name, version, text⟩ = true := by
    cases h : mayNote ⟨kind, inst, step, state, part, cause, key, name, version, text⟩
    · rw [h] at h1
      cases h1
    · rfl
   have hin : inst = x.id := bne_eq_false_iff_eq.1 h2
   by_cases hs2 : sortL nm l x = 2
   · refine (On_sh nm l A c x B cb kind inst step state part cause key name version text w hnm hxk hS hb hn hc hT hB hxs hcd hs2 hmay hin).mono ?_
     rintro e w' ⟨rfl, hb'⟩
     rw [if_neg (by decide), if_pos (by rw [hs2]; rfl)]
     exact ⟨⟨_, rfl, World.ownsRow_nil _ _ _ _⟩, hb'⟩
   · have hs1 : sortL nm l x = 1 := by
      have := sort_three nm l x
      have h0' : sortL nm l x ≠ 0 := beq_eq_false_iff_ne.1 h0
      omega
     refine (On_open nm l A c x B cb kind inst step state part cause key name version text w hnm hxk hS hb hn hc hT hB hxs hcd hs1 hmay hin hbr).mono ?_
     rintro e w' ⟨hm, hb'⟩
     rw [if_neg (by decide), if_neg (by rw [hs1]; decide)]
     cases ho : onX nm l x ⟨kind, inst, step, state, part, cause, key, name, version, text⟩ with
     | none =>
      rw [ho] at hm
      obtain rfl := hm
      exact ⟨⟨_, rfl, World.ownsRow_nil _ _ _ _⟩, hb'⟩
     | some y =>
      rw [ho] at hm
      obtain ⟨v, rfl, hv⟩ := hm
      exact ⟨⟨v, rfl, hv⟩, hb'⟩
 · refine (On_no nm l A c x B cb kind inst step state part cause key name version text w hnm hxk hS hb hn hc hT hB hxs hcd hh).mono ?_
   rintro e w' ⟨rfl, hb'⟩
   rw [if_pos rfl]
   exact ⟨⟨_, rfl, World.ownsRow_nil _ _ _ _⟩, hb'⟩
end Go.Proofs.YtgjddnaidjbhlaaGreatDoor.Ph
