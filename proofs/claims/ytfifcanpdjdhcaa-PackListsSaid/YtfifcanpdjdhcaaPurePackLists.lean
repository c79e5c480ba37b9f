/- PackLists: of any list pack.List answers what the reference answers, the list is as it was, and the document's examples hold. No condition. -/
import Derived.Test.YtfifcanpdjdhcaaHx1
import Derived.Test.YtfifcanpdjdhcaaPkG
namespace Go.Proofs.Ytfifcanpdjdhcaa.Pure
open Go.RowKit Go.Proofs.Ytfifcanpdjdhcaa.G Go.Proofs.Ytfifcanpdjdhcaa.H Go.Proofs.YtfifcanpdjdhcaaW.PrintWords Go.Proofs.YtfifcanpdjdhcaaW.PrintLast

theorem Lists_pure (l : List ByteArray) (hl : l.length * 16 ≤ 140737488351232) : ∃ k, odysseylaw03_PackLists.f k l = some true := by
  refine ⟨l.length + 4200, ?_⟩
  unfold odysseylaw03_PackLists.f odysseylaw03_copied.f RefList.odysseyref03_List.f
  rw [List.nil_append, if_pos (by simp only [List.length_nil]; omega)]
  simp only [Option.bind_some]
  rw [PkG.pack_list l _ (by omega), PkG.same_list l l (by omega) _ (by omega), PkG.live _ (by omega)]
  simp

theorem PackLists_walk (A0 : Option Addr) (c0 : Nat) (l0 : List ByteArray) (w : World)
    (hc : l0.length ≤ c0) (hr : Kd.C Kd.string w A0 l0.length l0) (hb : (∀ x ∈ l0, x.size ≤ 140737488351232) ∧ l0.length * Try.prog.bytesOf 9 ≤ reachBytes) :
    Calls Try.prog 7 #[.slice A0 l0.length c0] w fun e w' => e = .returned (.bool true) ∧ Below w.heap.size w w' := by
  have hB : Try.prog.bytesOf 9 = 16 := by kernel_rfl
  have hl := hb.2
  rw [hB] at hl
  obtain ⟨k, h⟩ := Lists_pure l0 hl
  exact odysseylaw03_PackLists.calls k A0 c0 l0 true w hr hc ⟨rfl⟩ h
end Go.Proofs.Ytfifcanpdjdhcaa.Pure
