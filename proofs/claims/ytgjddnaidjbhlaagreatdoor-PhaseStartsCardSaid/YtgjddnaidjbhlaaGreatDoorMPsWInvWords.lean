import Derived.Test.YtgjddnaidjbhlaaGreatDoorMPsWInv
import Derived.Test.YtgjddnaidjbhlaaGreatDoorMPsWN
set_option linter.unusedVariables false
set_option linter.unusedSimpArgs false
-- PRINTED BY print.sh 35421559b90ae4d0a3588c463048766b98c2df88dd9212a6774a882060cdf62d: not written by this session
namespace Go.Proofs.YtgjddnaidjbhlaaGreatDoorW.PrintWords
open Go.RowKit
/-- Two rows, one made behind the other's standing. -/
theorem own_apart {v1 v2 : Value} {n : Nat} (hlt : ∀ k, v1.ownBlock = some k → k < n) (hge : ∀ k, v2.ownBlock = some k → n ≤ k) : v1.ownBlock = none ∨ v1.ownBlock ≠ v2.ownBlock := by
 cases h : v1.ownBlock with
 | none => exact .inl rfl
 | some k => exact .inr (fun e => by have := hlt k h; have := hge k e.symm; omega)
end Go.Proofs.YtgjddnaidjbhlaaGreatDoorW.PrintWords

