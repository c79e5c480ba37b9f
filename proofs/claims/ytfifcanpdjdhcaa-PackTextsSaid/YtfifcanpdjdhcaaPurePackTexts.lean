/- PackTexts: of any text pack.Text answers what the reference answers, and the document's examples hold. No condition. -/
import Derived.Test.YtfifcanpdjdhcaaPkG
namespace Go.Proofs.Ytfifcanpdjdhcaa.Pure
open Go.RowKit Go.Proofs.Ytfifcanpdjdhcaa.G Go.Proofs.YtfifcanpdjdhcaaW.PrintWords Go.Proofs.YtfifcanpdjdhcaaW.PrintLast

theorem PackTexts : odysseylaw03_PackTexts.Pure := by
  intro s _
  refine ⟨20, ?_⟩
  unfold odysseylaw03_PackTexts.f
  rw [PkG.pack_text s 20 (Nat.le_refl _), PkG.ref_text s 20 (Nat.le_refl _), PkG.live 20 (Nat.le_refl _)]
  simp
end Go.Proofs.Ytfifcanpdjdhcaa.Pure
