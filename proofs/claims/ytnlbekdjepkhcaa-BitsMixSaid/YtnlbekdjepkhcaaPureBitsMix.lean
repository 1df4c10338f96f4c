import Derived.Test.YtnlbekdjepkhcaaQMi1
namespace Go.Proofs.Ytnlbekdjepkhcaa.Pure
open Go.RowKit Go.Proofs.Ytnlbekdjepkhcaa.QMi Go.Proofs.YtnlbekdjepkhcaaBM

theorem BitsMix : ramekinlaw6_BitsMix.Pure := by
  intro l0 l1 l2 _ _ h0 _ _ h1 _ _ h2
  unfold ramekinlaw6_BitsMix.f
  rw [if_pos ⟨wf_bytes h0, wf_bytes h1, wf_bytes h2⟩]

end Go.Proofs.Ytnlbekdjepkhcaa.Pure
