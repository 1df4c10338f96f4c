-- Written by a program of this session's (ownprint.py, over the kit's print.py); Lean checks it.
import Derived.Test.YtlbaacellnlpfaaQA0
import Derived.Test.YtlbaacellnlpfaaQA1
import Derived.Test.YtlbaacellnlpfaaQA3
import Derived.Test.YtlbaacellnlpfaaQA5
import Derived.Test.YtlbaacellnlpfaaQA8
namespace Go.Proofs.Ytlbaacellnlpfaa.QA
open Go.RowKit Go.Proofs.YtlbaacellnlpfaaW.PrintWords Go.Proofs.YtlbaacellnlpfaaW.PrintLast Go.Proofs.YtlbaacellnlpfaaW.PrintMore
attribute [local go_sem] max2_int min2_int max_two min_two max_three min_three max_four min_four   -- for this text's walks alone
set_option linter.unusedVariables false
set_option linter.unusedSimpArgs false

/-! ### ramekinlaw2_GfQuotients: function 7 -/
def ramekinlaw2_GfQuotients.f (a0 : Int) (a1 : Int) : Option (Bool) := (ramekinlaw2_known.f).bind fun t147 => (if t147 = true then ((ramekinlaw2_within.f a1 600).bind fun t148 => ((gf_Pow.f a0 (wrap64 (-(wrap64 (1 + t148))))).bind fun t149 => ((gf_Inv.f a0).bind fun t150 => ((gf_Pow.f t150 (wrap64 (1 + t148))).bind fun t151 => (if t149 = t151 then (if a0 = 0 then ((gf_Inv.f a0).bind fun t152 => ((gf_Inv.f t152).bind fun t153 => (some (t153 == a0)))) else ((gf_Pow.f a0 (wrap64 (1 + t148))).bind fun t154 => ((gf_Pow.f a0 (wrap64 (-(wrap64 (1 + t148))))).bind fun t155 => ((gf_Mul.f t154 t155).bind fun t156 => (if t156 = 1 then ((gf_Inv.f a0).bind fun t157 => ((gf_Inv.f t157).bind fun t158 => (some (t158 == a0)))) else (some false)))))) else (some false)))))) else (some false))
set_option maxHeartbeats 8000000 in
set_option maxRecDepth 100000 in
theorem ramekinlaw2_GfQuotients.calls (a0 : Int) (a1 : Int) (r : Bool) (w : World) (h : ramekinlaw2_GfQuotients.f a0 a1 = some r) :
    Calls Try.prog 7 #[.int .u8 a0, .int .i64 a1] w fun e w' => e = .returned (.bool r) ∧ Below w.heap.size w w' := by
  have HB := Aside0.mk (Below.refl w.heap.size w)
  have H : ((ramekinlaw2_known.f).bind fun t147 => (if t147 = true then ((ramekinlaw2_within.f a1 600).bind fun t148 => ((gf_Pow.f a0 (wrap64 (-(wrap64 (1 + t148))))).bind fun t149 => ((gf_Inv.f a0).bind fun t150 => ((gf_Pow.f t150 (wrap64 (1 + t148))).bind fun t151 => (if t149 = t151 then (if a0 = 0 then ((gf_Inv.f a0).bind fun t152 => ((gf_Inv.f t152).bind fun t153 => (some (t153 == a0)))) else ((gf_Pow.f a0 (wrap64 (1 + t148))).bind fun t154 => ((gf_Pow.f a0 (wrap64 (-(wrap64 (1 + t148))))).bind fun t155 => ((gf_Mul.f t154 t155).bind fun t156 => (if t156 = 1 then ((gf_Inv.f a0).bind fun t157 => ((gf_Inv.f t157).bind fun t158 => (some (t158 == a0)))) else (some false)))))) else (some false)))))) else (some false))) = some r := h
  clear h
  replace H := Option.bind_eq_some_iff.mp H
  obtain ⟨t147, A30, H⟩ := H
  replace H : (if t147 = true then ((ramekinlaw2_within.f a1 600).bind fun t148 => ((gf_Pow.f a0 (wrap64 (-(wrap64 (1 + t148))))).bind fun t149 => ((gf_Inv.f a0).bind fun t150 => ((gf_Pow.f t150 (wrap64 (1 + t148))).bind fun t151 => (if t149 = t151 then (if a0 = 0 then ((gf_Inv.f a0).bind fun t152 => ((gf_Inv.f t152).bind fun t153 => (some (t153 == a0)))) else ((gf_Pow.f a0 (wrap64 (1 + t148))).bind fun t154 => ((gf_Pow.f a0 (wrap64 (-(wrap64 (1 + t148))))).bind fun t155 => ((gf_Mul.f t154 t155).bind fun t156 => (if t156 = 1 then ((gf_Inv.f a0).bind fun t157 => ((gf_Inv.f t157).bind fun t158 => (some (t158 == a0)))) else (some false)))))) else (some false)))))) else (some false)) = some r := H
  have A3 := Aside0.mk A30
  clear A30
  by_cases c4 : t147 = true
  · subst c4
    have H1 : ((ramekinlaw2_within.f a1 600).bind fun t148 => ((gf_Pow.f a0 (wrap64 (-(wrap64 (1 + t148))))).bind fun t149 => ((gf_Inv.f a0).bind fun t150 => ((gf_Pow.f t150 (wrap64 (1 + t148))).bind fun t151 => (if t149 = t151 then (if a0 = 0 then ((gf_Inv.f a0).bind fun t152 => ((gf_Inv.f t152).bind fun t153 => (some (t153 == a0)))) else ((gf_Pow.f a0 (wrap64 (1 + t148))).bind fun t154 => ((gf_Pow.f a0 (wrap64 (-(wrap64 (1 + t148))))).bind fun t155 => ((gf_Mul.f t154 t155).bind fun t156 => (if t156 = 1 then ((gf_Inv.f a0).bind fun t157 => ((gf_Inv.f t157).bind fun t158 => (some (t158 == a0)))) else (some false)))))) else (some false)))))) = some r := by rw [if_pos rfl] at H; exact H
    clear H
    have H := H1
    clear H1
    replace H := Option.bind_eq_some_iff.mp H
    obtain ⟨t148, A50, H⟩ := H
    replace H : ((gf_Pow.f a0 (wrap64 (-(wrap64 (1 + t148))))).bind fun t149 => ((gf_Inv.f a0).bind fun t150 => ((gf_Pow.f t150 (wrap64 (1 + t148))).bind fun t151 => (if t149 = t151 then (if a0 = 0 then ((gf_Inv.f a0).bind fun t152 => ((gf_Inv.f t152).bind fun t153 => (some (t153 == a0)))) else ((gf_Pow.f a0 (wrap64 (1 + t148))).bind fun t154 => ((gf_Pow.f a0 (wrap64 (-(wrap64 (1 + t148))))).bind fun t155 => ((gf_Mul.f t154 t155).bind fun t156 => (if t156 = 1 then ((gf_Inv.f a0).bind fun t157 => ((gf_Inv.f t157).bind fun t158 => (some (t158 == a0)))) else (some false)))))) else (some false))))) = some r := H
    have A5 := Aside0.mk A50
    clear A50
    replace H := Option.bind_eq_some_iff.mp H
    obtain ⟨t149, A60, H⟩ := H
    replace H : ((gf_Inv.f a0).bind fun t150 => ((gf_Pow.f t150 (wrap64 (1 + t148))).bind fun t151 => (if t149 = t151 then (if a0 = 0 then ((gf_Inv.f a0).bind fun t152 => ((gf_Inv.f t152).bind fun t153 => (some (t153 == a0)))) else ((gf_Pow.f a0 (wrap64 (1 + t148))).bind fun t154 => ((gf_Pow.f a0 (wrap64 (-(wrap64 (1 + t148))))).bind fun t155 => ((gf_Mul.f t154 t155).bind fun t156 => (if t156 = 1 then ((gf_Inv.f a0).bind fun t157 => ((gf_Inv.f t157).bind fun t158 => (some (t158 == a0)))) else (some false)))))) else (some false)))) = some r := H
    have A6 := Aside0.mk A60
    clear A60
    replace H := Option.bind_eq_some_iff.mp H
    obtain ⟨t150, A70, H⟩ := H
    replace H : ((gf_Pow.f t150 (wrap64 (1 + t148))).bind fun t151 => (if t149 = t151 then (if a0 = 0 then ((gf_Inv.f a0).bind fun t152 => ((gf_Inv.f t152).bind fun t153 => (some (t153 == a0)))) else ((gf_Pow.f a0 (wrap64 (1 + t148))).bind fun t154 => ((gf_Pow.f a0 (wrap64 (-(wrap64 (1 + t148))))).bind fun t155 => ((gf_Mul.f t154 t155).bind fun t156 => (if t156 = 1 then ((gf_Inv.f a0).bind fun t157 => ((gf_Inv.f t157).bind fun t158 => (some (t158 == a0)))) else (some false)))))) else (some false))) = some r := H
    have A7 := Aside0.mk A70
    clear A70
    replace H := Option.bind_eq_some_iff.mp H
    obtain ⟨t151, A80, H⟩ := H
    replace H : (if t149 = t151 then (if a0 = 0 then ((gf_Inv.f a0).bind fun t152 => ((gf_Inv.f t152).bind fun t153 => (some (t153 == a0)))) else ((gf_Pow.f a0 (wrap64 (1 + t148))).bind fun t154 => ((gf_Pow.f a0 (wrap64 (-(wrap64 (1 + t148))))).bind fun t155 => ((gf_Mul.f t154 t155).bind fun t156 => (if t156 = 1 then ((gf_Inv.f a0).bind fun t157 => ((gf_Inv.f t157).bind fun t158 => (some (t158 == a0)))) else (some false)))))) else (some false)) = some r := H
    have A8 := Aside0.mk A80
    clear A80
    by_cases c9 : t149 = t151
    · rw [if_pos c9] at H
      have c9b0 : (t149 == t151) = true := beq_iff_eq.mpr c9
      have c9b1 : (t149 != t151) = false := bne_eq_false_iff_eq.mpr c9
      clear c9
      by_cases c10 : a0 = 0
      · rw [if_pos c10] at H
        have c10b0 : (a0 == 0) = true := beq_iff_eq.mpr c10
        have c10b1 : (a0 != 0) = false := bne_eq_false_iff_eq.mpr c10
        clear c10
        replace H := Option.bind_eq_some_iff.mp H
        obtain ⟨t152, A110, H⟩ := H
        replace H : ((gf_Inv.f t152).bind fun t153 => (some (t153 == a0))) = some r := H
        have A11 := Aside0.mk A110
        clear A110
        replace H := Option.bind_eq_some_iff.mp H
        obtain ⟨t153, A120, H⟩ := H
        replace H : (some (t153 == a0)) = some r := H
        have A12 := Aside0.mk A120
        clear A120
        obtain rfl := Option.some.inj H
        go_enter Try.func7, Try.ntmps7
        go_wp2_with (first | ((with_reducible refine gate_callee (f := 12) rfl ?_); refine goesL_ (some 5) rfl rfl Try.func12 (by kernel_rfl) rfl #[] rfl (by (try simp only [List.map_toArray, List.map_cons, List.map_nil]); first | done | rfl | (simp only [List.length_drop, List.length_take]; rfl)) ?_; (with_reducible refine (ramekinlaw2_known.calls  true _ A3.out).mono ?_); rintro e w13 ⟨rfl, hb⟩; refine ⟨_, rfl, ?_⟩; have n0_ := Aside0.mk (below_step (by repeat (first | (with_reducible first | exact HB.out | apply below_alloc | apply pw_below_drewN | apply below_drew1) | exact HB.out)) hb); clear HB; have HB := n0_; clear n0_; (try clear hb); (try clear hb2); (try clear hk); (try clear hi)) | ((with_reducible refine gate_callee (f := 16) rfl ?_); refine goesL_ (some 8) rfl rfl Try.func16 (by kernel_rfl) rfl #[.int .i64 a1, .int .i64 600] rfl (by (try simp only [List.map_toArray, List.map_cons, List.map_nil]); first | done | rfl | (simp only [List.length_drop, List.length_take]; rfl)) ?_; (with_reducible refine (ramekinlaw2_within.calls a1 600 t148 _ A5.out).mono ?_); rintro e w' ⟨rfl, ⟨nd, rfl⟩⟩; refine ⟨_, rfl, ?_⟩) | ((with_reducible refine gate_callee (f := 15) rfl ?_); refine goesL_ (some 13) rfl rfl Try.func15 (by kernel_rfl) rfl #[.int .u8 a0, .int .i64 (wrap64 (-(wrap64 (1 + t148))))] rfl (by (try simp only [List.map_toArray, List.map_cons, List.map_nil]); first | done | rfl | (simp only [List.length_drop, List.length_take]; rfl)) ?_; (with_reducible refine (gf_Pow.calls a0 (wrap64 (-(wrap64 (1 + t148)))) t149 _ A6.out).mono ?_); rintro e w14 ⟨rfl, hb⟩; refine ⟨_, rfl, ?_⟩; have n0_ := Aside0.mk (below_step (by repeat (first | (with_reducible first | exact HB.out | apply below_alloc | apply pw_below_drewN | apply below_drew1) | exact HB.out)) hb); clear HB; have HB := n0_; clear n0_; (try clear hb); (try clear hb2); (try clear hk); (try clear hi)) | ((with_reducible refine gate_callee (f := 18) rfl ?_); refine goesL_ (some 15) rfl rfl Try.func18 (by kernel_rfl) rfl #[.int .u8 a0] rfl (by (try simp only [List.map_toArray, List.map_cons, List.map_nil]); first | done | rfl | (simp only [List.length_drop, List.length_take]; rfl)) ?_; (with_reducible refine (gf_Inv.calls a0 t150 _ A7.out).mono ?_); rintro e w15 ⟨rfl, hb⟩; refine ⟨_, rfl, ?_⟩; have n0_ := Aside0.mk (below_step (by repeat (first | (with_reducible first | exact HB.out | apply below_alloc | apply pw_below_drewN | apply below_drew1) | exact HB.out)) hb); clear HB; have HB := n0_; clear n0_; (try clear hb); (try clear hb2); (try clear hk); (try clear hi)) | ((with_reducible refine gate_callee (f := 15) rfl ?_); refine goesL_ (some 17) rfl rfl Try.func15 (by kernel_rfl) rfl #[.int .u8 t150, .int .i64 (wrap64 (1 + t148))] rfl (by (try simp only [List.map_toArray, List.map_cons, List.map_nil]); first | done | rfl | (simp only [List.length_drop, List.length_take]; rfl)) ?_; (with_reducible refine (gf_Pow.calls t150 (wrap64 (1 + t148)) t151 _ A8.out).mono ?_); rintro e w16 ⟨rfl, hb⟩; refine ⟨_, rfl, ?_⟩; have n0_ := Aside0.mk (below_step (by repeat (first | (with_reducible first | exact HB.out | apply below_alloc | apply pw_below_drewN | apply below_drew1) | exact HB.out)) hb); clear HB; have HB := n0_; clear n0_; (try clear hb); (try clear hb2); (try clear hk); (try clear hi)) | (go_at_call 18; (with_reducible refine (gf_Inv.calls a0 t152 _ A11.out).mono ?_); rintro e w17 ⟨rfl, hb⟩; have n0_ := Aside0.mk (below_step (by repeat (first | (with_reducible first | exact HB.out | apply below_alloc | apply pw_below_drewN | apply below_drew1) | exact HB.out)) hb); clear HB; have HB := n0_; clear n0_; (try clear hb); (try clear hb2); (try clear hk); (try clear hi)) | (go_at_call 18; (with_reducible refine (gf_Inv.calls t152 t153 _ A12.out).mono ?_); rintro e w18 ⟨rfl, hb⟩; have n0_ := Aside0.mk (below_step (by repeat (first | (with_reducible first | exact HB.out | apply below_alloc | apply pw_below_drewN | apply below_drew1) | exact HB.out)) hb); clear HB; have HB := n0_; clear n0_; (try clear hb); (try clear hb2); (try clear hk); (try clear hi)))
        go_ret
        exact ⟨by first | rfl | (simp [errW_none, errW_some] <;> rfl) | (simp [*, errW_none, errW_some] <;> rfl), by repeat (first | (with_reducible first | exact HB.out | apply below_alloc | apply pw_below_drewN | apply below_drew1) | exact HB.out)⟩
      · rw [if_neg c10] at H
        have c10b0 : (a0 == 0) = false := beq_eq_false_iff_ne.mpr c10
        have c10b1 : (a0 != 0) = true := bne_iff_ne.mpr c10
        replace H := Option.bind_eq_some_iff.mp H
        obtain ⟨t154, A190, H⟩ := H
        replace H : ((gf_Pow.f a0 (wrap64 (-(wrap64 (1 + t148))))).bind fun t155 => ((gf_Mul.f t154 t155).bind fun t156 => (if t156 = 1 then ((gf_Inv.f a0).bind fun t157 => ((gf_Inv.f t157).bind fun t158 => (some (t158 == a0)))) else (some false)))) = some r := H
        have A19 := Aside0.mk A190
        clear A190
        replace H := Option.bind_eq_some_iff.mp H
        obtain ⟨t155, A200, H⟩ := H
        replace H : ((gf_Mul.f t154 t155).bind fun t156 => (if t156 = 1 then ((gf_Inv.f a0).bind fun t157 => ((gf_Inv.f t157).bind fun t158 => (some (t158 == a0)))) else (some false))) = some r := H
        have A20 := Aside0.mk A200
        clear A200
        replace H := Option.bind_eq_some_iff.mp H
        obtain ⟨t156, A210, H⟩ := H
        replace H : (if t156 = 1 then ((gf_Inv.f a0).bind fun t157 => ((gf_Inv.f t157).bind fun t158 => (some (t158 == a0)))) else (some false)) = some r := H
        have A21 := Aside0.mk A210
        clear A210
        by_cases c22 : t156 = 1
        · rw [if_pos c22] at H
          have c22b0 : (t156 == 1) = true := beq_iff_eq.mpr c22
          have c22b1 : (t156 != 1) = false := bne_eq_false_iff_eq.mpr c22
          clear c22
          replace H := Option.bind_eq_some_iff.mp H
          obtain ⟨t157, A230, H⟩ := H
          replace H : ((gf_Inv.f t157).bind fun t158 => (some (t158 == a0))) = some r := H
          have A23 := Aside0.mk A230
          clear A230
          replace H := Option.bind_eq_some_iff.mp H
          obtain ⟨t158, A240, H⟩ := H
          replace H : (some (t158 == a0)) = some r := H
          have A24 := Aside0.mk A240
          clear A240
          obtain rfl := Option.some.inj H
          go_enter Try.func7, Try.ntmps7
          go_wp2_with (first | ((with_reducible refine gate_callee (f := 12) rfl ?_); refine goesL_ (some 5) rfl rfl Try.func12 (by kernel_rfl) rfl #[] rfl (by (try simp only [List.map_toArray, List.map_cons, List.map_nil]); first | done | rfl | (simp only [List.length_drop, List.length_take]; rfl)) ?_; (with_reducible refine (ramekinlaw2_known.calls  true _ A3.out).mono ?_); rintro e w25 ⟨rfl, hb⟩; refine ⟨_, rfl, ?_⟩; have n0_ := Aside0.mk (below_step (by repeat (first | (with_reducible first | exact HB.out | apply below_alloc | apply pw_below_drewN | apply below_drew1) | exact HB.out)) hb); clear HB; have HB := n0_; clear n0_; (try clear hb); (try clear hb2); (try clear hk); (try clear hi)) | ((with_reducible refine gate_callee (f := 16) rfl ?_); refine goesL_ (some 8) rfl rfl Try.func16 (by kernel_rfl) rfl #[.int .i64 a1, .int .i64 600] rfl (by (try simp only [List.map_toArray, List.map_cons, List.map_nil]); first | done | rfl | (simp only [List.length_drop, List.length_take]; rfl)) ?_; (with_reducible refine (ramekinlaw2_within.calls a1 600 t148 _ A5.out).mono ?_); rintro e w' ⟨rfl, ⟨nd, rfl⟩⟩; refine ⟨_, rfl, ?_⟩) | ((with_reducible refine gate_callee (f := 15) rfl ?_); refine goesL_ (some 13) rfl rfl Try.func15 (by kernel_rfl) rfl #[.int .u8 a0, .int .i64 (wrap64 (-(wrap64 (1 + t148))))] rfl (by (try simp only [List.map_toArray, List.map_cons, List.map_nil]); first | done | rfl | (simp only [List.length_drop, List.length_take]; rfl)) ?_; (with_reducible refine (gf_Pow.calls a0 (wrap64 (-(wrap64 (1 + t148)))) t149 _ A6.out).mono ?_); rintro e w26 ⟨rfl, hb⟩; refine ⟨_, rfl, ?_⟩; have n0_ := Aside0.mk (below_step (by repeat (first | (with_reducible first | exact HB.out | apply below_alloc | apply pw_below_drewN | apply below_drew1) | exact HB.out)) hb); clear HB; have HB := n0_; clear n0_; (try clear hb); (try clear hb2); (try clear hk); (try clear hi)) | ((with_reducible refine gate_callee (f := 18) rfl ?_); refine goesL_ (some 15) rfl rfl Try.func18 (by kernel_rfl) rfl #[.int .u8 a0] rfl (by (try simp only [List.map_toArray, List.map_cons, List.map_nil]); first | done | rfl | (simp only [List.length_drop, List.length_take]; rfl)) ?_; (with_reducible refine (gf_Inv.calls a0 t150 _ A7.out).mono ?_); rintro e w27 ⟨rfl, hb⟩; refine ⟨_, rfl, ?_⟩; have n0_ := Aside0.mk (below_step (by repeat (first | (with_reducible first | exact HB.out | apply below_alloc | apply pw_below_drewN | apply below_drew1) | exact HB.out)) hb); clear HB; have HB := n0_; clear n0_; (try clear hb); (try clear hb2); (try clear hk); (try clear hi)) | ((with_reducible refine gate_callee (f := 15) rfl ?_); refine goesL_ (some 17) rfl rfl Try.func15 (by kernel_rfl) rfl #[.int .u8 t150, .int .i64 (wrap64 (1 + t148))] rfl (by (try simp only [List.map_toArray, List.map_cons, List.map_nil]); first | done | rfl | (simp only [List.length_drop, List.length_take]; rfl)) ?_; (with_reducible refine (gf_Pow.calls t150 (wrap64 (1 + t148)) t151 _ A8.out).mono ?_); rintro e w28 ⟨rfl, hb⟩; refine ⟨_, rfl, ?_⟩; have n0_ := Aside0.mk (below_step (by repeat (first | (with_reducible first | exact HB.out | apply below_alloc | apply pw_below_drewN | apply below_drew1) | exact HB.out)) hb); clear HB; have HB := n0_; clear n0_; (try clear hb); (try clear hb2); (try clear hk); (try clear hi)) | (go_at_call 15; (with_reducible refine (gf_Pow.calls a0 (wrap64 (1 + t148)) t154 _ A19.out).mono ?_); rintro e w29 ⟨rfl, hb⟩; have n0_ := Aside0.mk (below_step (by repeat (first | (with_reducible first | exact HB.out | apply below_alloc | apply pw_below_drewN | apply below_drew1) | exact HB.out)) hb); clear HB; have HB := n0_; clear n0_; (try clear hb); (try clear hb2); (try clear hk); (try clear hi)) | (go_at_call 15; (with_reducible refine (gf_Pow.calls a0 (wrap64 (-(wrap64 (1 + t148)))) t155 _ A20.out).mono ?_); rintro e w30 ⟨rfl, hb⟩; have n0_ := Aside0.mk (below_step (by repeat (first | (with_reducible first | exact HB.out | apply below_alloc | apply pw_below_drewN | apply below_drew1) | exact HB.out)) hb); clear HB; have HB := n0_; clear n0_; (try clear hb); (try clear hb2); (try clear hk); (try clear hi)) | (go_at_call 13; (with_reducible refine (gf_Mul.calls t154 t155 t156 _ A21.out).mono ?_); rintro e w31 ⟨rfl, hb⟩; have n0_ := Aside0.mk (below_step (by repeat (first | (with_reducible first | exact HB.out | apply below_alloc | apply pw_below_drewN | apply below_drew1) | exact HB.out)) hb); clear HB; have HB := n0_; clear n0_; (try clear hb); (try clear hb2); (try clear hk); (try clear hi)) | (go_at_call 18; (with_reducible refine (gf_Inv.calls a0 t157 _ A23.out).mono ?_); rintro e w32 ⟨rfl, hb⟩; have n0_ := Aside0.mk (below_step (by repeat (first | (with_reducible first | exact HB.out | apply below_alloc | apply pw_below_drewN | apply below_drew1) | exact HB.out)) hb); clear HB; have HB := n0_; clear n0_; (try clear hb); (try clear hb2); (try clear hk); (try clear hi)) | (go_at_call 18; (with_reducible refine (gf_Inv.calls t157 t158 _ A24.out).mono ?_); rintro e w33 ⟨rfl, hb⟩; have n0_ := Aside0.mk (below_step (by repeat (first | (with_reducible first | exact HB.out | apply below_alloc | apply pw_below_drewN | apply below_drew1) | exact HB.out)) hb); clear HB; have HB := n0_; clear n0_; (try clear hb); (try clear hb2); (try clear hk); (try clear hi)))
          go_ret
          exact ⟨by first | rfl | (simp [errW_none, errW_some] <;> rfl) | (simp [*, errW_none, errW_some] <;> rfl), by repeat (first | (with_reducible first | exact HB.out | apply below_alloc | apply pw_below_drewN | apply below_drew1) | exact HB.out)⟩
        · rw [if_neg c22] at H
          have c22b0 : (t156 == 1) = false := beq_eq_false_iff_ne.mpr c22
          have c22b1 : (t156 != 1) = true := bne_iff_ne.mpr c22
          obtain rfl := Option.some.inj H
          go_enter Try.func7, Try.ntmps7
          go_wp2_with (first | ((with_reducible refine gate_callee (f := 12) rfl ?_); refine goesL_ (some 5) rfl rfl Try.func12 (by kernel_rfl) rfl #[] rfl (by (try simp only [List.map_toArray, List.map_cons, List.map_nil]); first | done | rfl | (simp only [List.length_drop, List.length_take]; rfl)) ?_; (with_reducible refine (ramekinlaw2_known.calls  true _ A3.out).mono ?_); rintro e w34 ⟨rfl, hb⟩; refine ⟨_, rfl, ?_⟩; have n0_ := Aside0.mk (below_step (by repeat (first | (with_reducible first | exact HB.out | apply below_alloc | apply pw_below_drewN | apply below_drew1) | exact HB.out)) hb); clear HB; have HB := n0_; clear n0_; (try clear hb); (try clear hb2); (try clear hk); (try clear hi)) | ((with_reducible refine gate_callee (f := 16) rfl ?_); refine goesL_ (some 8) rfl rfl Try.func16 (by kernel_rfl) rfl #[.int .i64 a1, .int .i64 600] rfl (by (try simp only [List.map_toArray, List.map_cons, List.map_nil]); first | done | rfl | (simp only [List.length_drop, List.length_take]; rfl)) ?_; (with_reducible refine (ramekinlaw2_within.calls a1 600 t148 _ A5.out).mono ?_); rintro e w' ⟨rfl, ⟨nd, rfl⟩⟩; refine ⟨_, rfl, ?_⟩) | ((with_reducible refine gate_callee (f := 15) rfl ?_); refine goesL_ (some 13) rfl rfl Try.func15 (by kernel_rfl) rfl #[.int .u8 a0, .int .i64 (wrap64 (-(wrap64 (1 + t148))))] rfl (by (try simp only [List.map_toArray, List.map_cons, List.map_nil]); first | done | rfl | (simp only [List.length_drop, List.length_take]; rfl)) ?_; (with_reducible refine (gf_Pow.calls a0 (wrap64 (-(wrap64 (1 + t148)))) t149 _ A6.out).mono ?_); rintro e w35 ⟨rfl, hb⟩; refine ⟨_, rfl, ?_⟩; have n0_ := Aside0.mk (below_step (by repeat (first | (with_reducible first | exact HB.out | apply below_alloc | apply pw_below_drewN | apply below_drew1) | exact HB.out)) hb); clear HB; have HB := n0_; clear n0_; (try clear hb); (try clear hb2); (try clear hk); (try clear hi)) | ((with_reducible refine gate_callee (f := 18) rfl ?_); refine goesL_ (some 15) rfl rfl Try.func18 (by kernel_rfl) rfl #[.int .u8 a0] rfl (by (try simp only [List.map_toArray, List.map_cons, List.map_nil]); first | done | rfl | (simp only [List.length_drop, List.length_take]; rfl)) ?_; (with_reducible refine (gf_Inv.calls a0 t150 _ A7.out).mono ?_); rintro e w36 ⟨rfl, hb⟩; refine ⟨_, rfl, ?_⟩; have n0_ := Aside0.mk (below_step (by repeat (first | (with_reducible first | exact HB.out | apply below_alloc | apply pw_below_drewN | apply below_drew1) | exact HB.out)) hb); clear HB; have HB := n0_; clear n0_; (try clear hb); (try clear hb2); (try clear hk); (try clear hi)) | ((with_reducible refine gate_callee (f := 15) rfl ?_); refine goesL_ (some 17) rfl rfl Try.func15 (by kernel_rfl) rfl #[.int .u8 t150, .int .i64 (wrap64 (1 + t148))] rfl (by (try simp only [List.map_toArray, List.map_cons, List.map_nil]); first | done | rfl | (simp only [List.length_drop, List.length_take]; rfl)) ?_; (with_reducible refine (gf_Pow.calls t150 (wrap64 (1 + t148)) t151 _ A8.out).mono ?_); rintro e w37 ⟨rfl, hb⟩; refine ⟨_, rfl, ?_⟩; have n0_ := Aside0.mk (below_step (by repeat (first | (with_reducible first | exact HB.out | apply below_alloc | apply pw_below_drewN | apply below_drew1) | exact HB.out)) hb); clear HB; have HB := n0_; clear n0_; (try clear hb); (try clear hb2); (try clear hk); (try clear hi)) | (go_at_call 15; (with_reducible refine (gf_Pow.calls a0 (wrap64 (1 + t148)) t154 _ A19.out).mono ?_); rintro e w38 ⟨rfl, hb⟩; have n0_ := Aside0.mk (below_step (by repeat (first | (with_reducible first | exact HB.out | apply below_alloc | apply pw_below_drewN | apply below_drew1) | exact HB.out)) hb); clear HB; have HB := n0_; clear n0_; (try clear hb); (try clear hb2); (try clear hk); (try clear hi)) | (go_at_call 15; (with_reducible refine (gf_Pow.calls a0 (wrap64 (-(wrap64 (1 + t148)))) t155 _ A20.out).mono ?_); rintro e w39 ⟨rfl, hb⟩; have n0_ := Aside0.mk (below_step (by repeat (first | (with_reducible first | exact HB.out | apply below_alloc | apply pw_below_drewN | apply below_drew1) | exact HB.out)) hb); clear HB; have HB := n0_; clear n0_; (try clear hb); (try clear hb2); (try clear hk); (try clear hi)) | (go_at_call 13; (with_reducible refine (gf_Mul.calls t154 t155 t156 _ A21.out).mono ?_); rintro e w40 ⟨rfl, hb⟩; have n0_ := Aside0.mk (below_step (by repeat (first | (with_reducible first | exact HB.out | apply below_alloc | apply pw_below_drewN | apply below_drew1) | exact HB.out)) hb); clear HB; have HB := n0_; clear n0_; (try clear hb); (try clear hb2); (try clear hk); (try clear hi)))
          go_ret
          exact ⟨by first | rfl | (simp [errW_none, errW_some] <;> rfl) | (simp [*, errW_none, errW_some] <;> rfl), by repeat (first | (with_reducible first | exact HB.out | apply below_alloc | apply pw_below_drewN | apply below_drew1) | exact HB.out)⟩
    · rw [if_neg c9] at H
      have c9b0 : (t149 == t151) = false := beq_eq_false_iff_ne.mpr c9
      have c9b1 : (t149 != t151) = true := bne_iff_ne.mpr c9
      obtain rfl := Option.some.inj H
      go_enter Try.func7, Try.ntmps7
      go_wp2_with (first | ((with_reducible refine gate_callee (f := 12) rfl ?_); refine goesL_ (some 5) rfl rfl Try.func12 (by kernel_rfl) rfl #[] rfl (by (try simp only [List.map_toArray, List.map_cons, List.map_nil]); first | done | rfl | (simp only [List.length_drop, List.length_take]; rfl)) ?_; (with_reducible refine (ramekinlaw2_known.calls  true _ A3.out).mono ?_); rintro e w41 ⟨rfl, hb⟩; refine ⟨_, rfl, ?_⟩; have n0_ := Aside0.mk (below_step (by repeat (first | (with_reducible first | exact HB.out | apply below_alloc | apply pw_below_drewN | apply below_drew1) | exact HB.out)) hb); clear HB; have HB := n0_; clear n0_; (try clear hb); (try clear hb2); (try clear hk); (try clear hi)) | ((with_reducible refine gate_callee (f := 16) rfl ?_); refine goesL_ (some 8) rfl rfl Try.func16 (by kernel_rfl) rfl #[.int .i64 a1, .int .i64 600] rfl (by (try simp only [List.map_toArray, List.map_cons, List.map_nil]); first | done | rfl | (simp only [List.length_drop, List.length_take]; rfl)) ?_; (with_reducible refine (ramekinlaw2_within.calls a1 600 t148 _ A5.out).mono ?_); rintro e w' ⟨rfl, ⟨nd, rfl⟩⟩; refine ⟨_, rfl, ?_⟩) | ((with_reducible refine gate_callee (f := 15) rfl ?_); refine goesL_ (some 13) rfl rfl Try.func15 (by kernel_rfl) rfl #[.int .u8 a0, .int .i64 (wrap64 (-(wrap64 (1 + t148))))] rfl (by (try simp only [List.map_toArray, List.map_cons, List.map_nil]); first | done | rfl | (simp only [List.length_drop, List.length_take]; rfl)) ?_; (with_reducible refine (gf_Pow.calls a0 (wrap64 (-(wrap64 (1 + t148)))) t149 _ A6.out).mono ?_); rintro e w42 ⟨rfl, hb⟩; refine ⟨_, rfl, ?_⟩; have n0_ := Aside0.mk (below_step (by repeat (first | (with_reducible first | exact HB.out | apply below_alloc | apply pw_below_drewN | apply below_drew1) | exact HB.out)) hb); clear HB; have HB := n0_; clear n0_; (try clear hb); (try clear hb2); (try clear hk); (try clear hi)) | ((with_reducible refine gate_callee (f := 18) rfl ?_); refine goesL_ (some 15) rfl rfl Try.func18 (by kernel_rfl) rfl #[.int .u8 a0] rfl (by (try simp only [List.map_toArray, List.map_cons, List.map_nil]); first | done | rfl | (simp only [List.length_drop, List.length_take]; rfl)) ?_; (with_reducible refine (gf_Inv.calls a0 t150 _ A7.out).mono ?_); rintro e w43 ⟨rfl, hb⟩; refine ⟨_, rfl, ?_⟩; have n0_ := Aside0.mk (below_step (by repeat (first | (with_reducible first | exact HB.out | apply below_alloc | apply pw_below_drewN | apply below_drew1) | exact HB.out)) hb); clear HB; have HB := n0_; clear n0_; (try clear hb); (try clear hb2); (try clear hk); (try clear hi)) | ((with_reducible refine gate_callee (f := 15) rfl ?_); refine goesL_ (some 17) rfl rfl Try.func15 (by kernel_rfl) rfl #[.int .u8 t150, .int .i64 (wrap64 (1 + t148))] rfl (by (try simp only [List.map_toArray, List.map_cons, List.map_nil]); first | done | rfl | (simp only [List.length_drop, List.length_take]; rfl)) ?_; (with_reducible refine (gf_Pow.calls t150 (wrap64 (1 + t148)) t151 _ A8.out).mono ?_); rintro e w44 ⟨rfl, hb⟩; refine ⟨_, rfl, ?_⟩; have n0_ := Aside0.mk (below_step (by repeat (first | (with_reducible first | exact HB.out | apply below_alloc | apply pw_below_drewN | apply below_drew1) | exact HB.out)) hb); clear HB; have HB := n0_; clear n0_; (try clear hb); (try clear hb2); (try clear hk); (try clear hi)))
      go_ret
      exact ⟨by first | rfl | (simp [errW_none, errW_some] <;> rfl) | (simp [*, errW_none, errW_some] <;> rfl), by repeat (first | (with_reducible first | exact HB.out | apply below_alloc | apply pw_below_drewN | apply below_drew1) | exact HB.out)⟩
  · replace c4 := Bool.eq_false_iff.mpr c4
    subst c4
    have H1 : (some false) = some r := by rw [if_neg (show ¬ (false = true) by decide)] at H; exact H
    clear H
    have H := H1
    clear H1
    obtain rfl := Option.some.inj H
    go_enter Try.func7, Try.ntmps7
    go_wp2_with (first | ((with_reducible refine gate_callee (f := 12) rfl ?_); refine goesL_ (some 5) rfl rfl Try.func12 (by kernel_rfl) rfl #[] rfl (by (try simp only [List.map_toArray, List.map_cons, List.map_nil]); first | done | rfl | (simp only [List.length_drop, List.length_take]; rfl)) ?_; (with_reducible refine (ramekinlaw2_known.calls  false _ A3.out).mono ?_); rintro e w45 ⟨rfl, hb⟩; refine ⟨_, rfl, ?_⟩; have n0_ := Aside0.mk (below_step (by repeat (first | (with_reducible first | exact HB.out | apply below_alloc | apply pw_below_drewN | apply below_drew1) | exact HB.out)) hb); clear HB; have HB := n0_; clear n0_; (try clear hb); (try clear hb2); (try clear hk); (try clear hi)))
    go_ret
    exact ⟨by first | rfl | (simp [errW_none, errW_some] <;> rfl) | (simp [*, errW_none, errW_some] <;> rfl), by repeat (first | (with_reducible first | exact HB.out | apply below_alloc | apply pw_below_drewN | apply below_drew1) | exact HB.out)⟩

/-- THE ONE PURE STATEMENT of ramekinlaw2_GfQuotients: yours. -/
def ramekinlaw2_GfQuotients.Pure : Prop := ∀ (a0 : Int) (a1 : Int), (Lit.int .u8 a0).wf = true → (Lit.int .i64 a1).wf = true → ramekinlaw2_GfQuotients.f a0 a1 = some true
theorem ramekinlaw2_GfQuotients.walk (P : ramekinlaw2_GfQuotients.Pure) (a0 : Int) (a1 : Int) (w : World) (w0 : (Lit.int .u8 a0).wf = true) (w1 : (Lit.int .i64 a1).wf = true) :
    Calls Try.prog 7 #[.int .u8 a0, .int .i64 a1] w fun e w' => e = .returned (.bool true) ∧ Below w.heap.size w w' := by
  have h := P a0 a1 w0 w1
  refine (ramekinlaw2_GfQuotients.calls a0 a1 true w h).mono ?_
  rintro e w' ⟨rfl, hd⟩
  exact ⟨rfl, hd⟩

end Go.Proofs.Ytlbaacellnlpfaa.QA
