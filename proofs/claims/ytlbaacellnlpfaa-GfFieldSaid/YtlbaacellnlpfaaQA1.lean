-- Written by a program of this session's (ownprint.py, over the kit's print.py); Lean checks it.
import Derived.Test.YtlbaacellnlpfaaQA0
namespace Go.Proofs.Ytlbaacellnlpfaa.QA
open Go.RowKit Go.Proofs.YtlbaacellnlpfaaW.PrintWords Go.Proofs.YtlbaacellnlpfaaW.PrintLast Go.Proofs.YtlbaacellnlpfaaW.PrintMore
attribute [local go_sem] max2_int min2_int max_two min_two max_three min_three max_four min_four   -- for this text's walks alone
set_option linter.unusedVariables false
set_option linter.unusedSimpArgs false

def gf_Mul.f (a0 : Int) (a1 : Int) : Option (Int) := if 0 ≤ a0 ∧ a0 < 256 ∧ 0 ≤ a1 ∧ a1 < 256 then some ((Ram.gmul a0.toNat a1.toNat : Nat) : Int) else none
theorem gf_Mul.calls (a0 : Int) (a1 : Int) (r : Int) (w : World) (h : gf_Mul.f a0 a1 = some r) :
    Calls Try.prog 13 #[.int .u8 a0, .int .u8 a1] w fun e w' => e = .returned (.int .u8 r) ∧ Below w.heap.size w w' :=
  Go.Proofs.Ytlbaacellnlpfaa.QG.gf_Mul.calls a0 a1 r w h

/-! ### ramekinlaw2_known: function 12 -/
def ramekinlaw2_known.f  : Option (Bool) := (gf_Mul.f 2 128).bind fun t101 => (some (t101 == 29))
set_option maxHeartbeats 8000000 in
set_option maxRecDepth 100000 in
theorem ramekinlaw2_known.calls  (r : Bool) (w : World) (h : ramekinlaw2_known.f  = some r) :
    Calls Try.prog 12 #[] w fun e w' => e = .returned (.bool r) ∧ Below w.heap.size w w' := by
  have HB := Aside0.mk (Below.refl w.heap.size w)
  have H : ((gf_Mul.f 2 128).bind fun t101 => (some (t101 == 29))) = some r := h
  clear h
  replace H := Option.bind_eq_some_iff.mp H
  obtain ⟨t101, A10, H⟩ := H
  replace H : (some (t101 == 29)) = some r := H
  have A1 := Aside0.mk A10
  clear A10
  obtain rfl := Option.some.inj H
  go_enter Try.func12, Try.ntmps12
  go_wp2_with (first | ((with_reducible refine gate_callee (f := 13) rfl ?_); refine goesL_ (some 1) rfl rfl Try.func13 (by kernel_rfl) rfl #[.int .u8 2, .int .u8 128] rfl (by (try simp only [List.map_toArray, List.map_cons, List.map_nil]); first | done | rfl | (simp only [List.length_drop, List.length_take]; rfl)) ?_; (with_reducible refine (gf_Mul.calls 2 128 t101 _ A1.out).mono ?_); rintro e w2 ⟨rfl, hb⟩; refine ⟨_, rfl, ?_⟩; have n0_ := Aside0.mk (below_step (by repeat (first | (with_reducible first | exact HB.out | apply below_alloc | apply pw_below_drewN | apply below_drew1) | exact HB.out)) hb); clear HB; have HB := n0_; clear n0_; (try clear hb); (try clear hb2); (try clear hk); (try clear hi)))
  go_ret
  exact ⟨by first | rfl | (simp [errW_none, errW_some] <;> rfl) | (simp [*, errW_none, errW_some] <;> rfl), by repeat (first | (with_reducible first | exact HB.out | apply below_alloc | apply pw_below_drewN | apply below_drew1) | exact HB.out)⟩

def ramekinref2_Mul.f (a0 : Int) (a1 : Int) : Option (Int) := if 0 ≤ a0 ∧ a0 < 256 ∧ 0 ≤ a1 ∧ a1 < 256 then some ((Ram.gmul a0.toNat a1.toNat : Nat) : Int) else none
theorem ramekinref2_Mul.calls (a0 : Int) (a1 : Int) (r : Int) (w : World) (h : ramekinref2_Mul.f a0 a1 = some r) :
    Calls Try.prog 14 #[.int .u8 a0, .int .u8 a1] w fun e w' => e = .returned (.int .u8 r) ∧ Drawn0 w w' := by
  unfold ramekinref2_Mul.f at h
  split at h
  · rename_i hh
    obtain ⟨a, rfl⟩ := Int.eq_ofNat_of_zero_le hh.1
    obtain ⟨b, rfl⟩ := Int.eq_ofNat_of_zero_le hh.2.2.1
    exact Go.Proofs.Ytlbaacellnlpfaa.QG.ramekinref2_Mul.calls 12 a b r w ((Go.Proofs.YtlbaacellnlpfaaS.rmul_f a b (by omega) (by omega)).trans h)
  · cases h

end Go.Proofs.Ytlbaacellnlpfaa.QA
