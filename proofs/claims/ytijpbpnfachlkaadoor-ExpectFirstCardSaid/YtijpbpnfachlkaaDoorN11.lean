import Derived.Test.YtijpbpnfachlkaaDoorN9
/- The first place at which a pattern ends is the least of all: the law. No statement is proved here. -/
set_option linter.unusedVariables false
set_option linter.unusedSimpArgs false
set_option maxRecDepth 100000
set_option maxHeartbeats 8000000
namespace Go.Proofs.YtijpbpnfachlkaaDoor.SL
open Go Go.RowKit
section
variable {w0 : World} {B : Nat} {H X : List Chunk}
theorem any_fits {s : List Int} {t : Rx} {k : Nat} (hk : k ≤ s.length) : (endsL s t (upto (s.length + 1) (s.length + 1))).getD k false = true ↔ ∃ i, i ≤ k ∧ fitsT t (sub s i k) = true := by
  rw [ends_any]
  constructor
  · rintro ⟨i, h1, h2, h3⟩; exact ⟨i, h1, fitsT_iff.2 h3⟩
  · rintro ⟨i, h1, h2⟩; exact ⟨i, h1, hk, fitsT_iff.1 h2⟩
end
end Go.Proofs.YtijpbpnfachlkaaDoor.SL
