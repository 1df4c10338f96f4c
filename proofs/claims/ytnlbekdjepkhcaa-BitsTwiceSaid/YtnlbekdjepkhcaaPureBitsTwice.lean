import Derived.Test.YtnlbekdjepkhcaaQTw1
namespace Go.Proofs.Ytnlbekdjepkhcaa.Pure
open Go.RowKit Go.Proofs.Ytnlbekdjepkhcaa.QTw Go.Proofs.YtnlbekdjepkhcaaBM

theorem BitsTwice : ramekinlaw6_BitsTwice.Pure := by
  intro l0 l1 a2 a3 _ _ h0 _ _ h1 h2 h3
  unfold ramekinlaw6_BitsTwice.f
  rw [if_pos ⟨wf_bytes h0, wf_bytes h1, wf_u8 h2, wf_u8 h3⟩]

end Go.Proofs.Ytnlbekdjepkhcaa.Pure
