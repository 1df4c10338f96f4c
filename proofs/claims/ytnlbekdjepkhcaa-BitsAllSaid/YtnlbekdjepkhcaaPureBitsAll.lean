import Derived.Test.YtnlbekdjepkhcaaQAl1
namespace Go.Proofs.Ytnlbekdjepkhcaa.Pure
open Go.RowKit Go.Proofs.Ytnlbekdjepkhcaa.QAl Go.Proofs.YtnlbekdjepkhcaaBM

theorem BitsAll : ramekinlaw6_BitsAll.Pure := by
  intro l0 l1 l2 l3 _ _ h0 _ _ h1 _ _ h2 _ _ h3
  unfold ramekinlaw6_BitsAll.f
  rw [if_pos ⟨wf_bytes h0, wf_bytes h1, wf_bytes h2, by rw [List.all_eq_true]; intro x hx; have := wf_i64 (h3 x hx); simp; omega⟩]

end Go.Proofs.Ytnlbekdjepkhcaa.Pure
