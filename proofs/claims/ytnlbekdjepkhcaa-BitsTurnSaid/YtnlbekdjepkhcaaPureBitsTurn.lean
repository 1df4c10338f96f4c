import Derived.Test.YtnlbekdjepkhcaaQTu1
namespace Go.Proofs.Ytnlbekdjepkhcaa.Pure
open Go.RowKit Go.Proofs.Ytnlbekdjepkhcaa.QTu Go.Proofs.YtnlbekdjepkhcaaBM

theorem BitsTurn : ramekinlaw6_BitsTurn.Pure := by
  intro l0 l1 _ _ h0 _ _ h1
  unfold ramekinlaw6_BitsTurn.f
  rw [if_pos ⟨wf_bytes h0, wf_bytes h1⟩]

end Go.Proofs.Ytnlbekdjepkhcaa.Pure
