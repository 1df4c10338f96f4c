-- Written by a program of this session's (ownprint.py, over the kit's print.py); Lean checks it.
import Derived.Test.YtlbaacellnlpfaaQA0
import Derived.Test.YtlbaacellnlpfaaQA1
import Derived.Test.YtlbaacellnlpfaaQA3
import Derived.Test.YtlbaacellnlpfaaQA5
import Derived.Test.YtlbaacellnlpfaaQA8
import Derived.Test.YtlbaacellnlpfaaQA10
import Derived.Test.YtlbaacellnlpfaaQA12
namespace Go.Proofs.Ytlbaacellnlpfaa.QA
open Go.RowKit Go.Proofs.YtlbaacellnlpfaaW.PrintWords Go.Proofs.YtlbaacellnlpfaaW.PrintLast Go.Proofs.YtlbaacellnlpfaaW.PrintMore
attribute [local go_sem] max2_int min2_int max_two min_two max_three min_three max_four min_four   -- for this text's walks alone
set_option linter.unusedVariables false
set_option linter.unusedSimpArgs false

/-! ### ramekinlaw2_GfPowers: function 10 -/
def ramekinlaw2_GfPowers.f (a0 : Int) (a1 : Int) : Option (Bool) := (ramekinlaw2_known.f).bind fun t172 => (if t172 = true then ((gf_Exp.f a1).bind fun t173 => ((ramekinref2_Exp.f a1).bind fun t174 => (if t173 = t174 then ((gf_Log.f a0).bind fun t175 => ((ramekinref2_Log.f a0).bind fun t176 => (if t175 = t176 then ((gf_Inv.f a0).bind fun t177 => ((ramekinref2_Inv.f a0).bind fun t178 => (if t177 = t178 then ((gf_Pow.f a0 a1).bind fun t179 => ((ramekinref2_Pow.f a0 a1).bind fun t180 => (if t179 = t180 then ((ramekinlaw2_within.f a1 9).bind fun t181 => ((gf_Pow.f a0 (wrap64 (t181 - 4))).bind fun t182 => ((ramekinref2_Pow.f a0 (wrap64 (t181 - 4))).bind fun t183 => (some (t182 == t183))))) else (some false)))) else (some false)))) else (some false)))) else (some false)))) else (some false))
set_option maxHeartbeats 8000000 in
set_option maxRecDepth 100000 in
theorem ramekinlaw2_GfPowers.calls (a0 : Int) (a1 : Int) (r : Bool) (w : World) (h : ramekinlaw2_GfPowers.f a0 a1 = some r) :
    Calls Try.prog 10 #[.int .u8 a0, .int .i64 a1] w fun e w' => e = .returned (.bool r) ∧ Below w.heap.size w w' := by
  have HB := Aside0.mk (Below.refl w.heap.size w)
  have H : ((ramekinlaw2_known.f).bind fun t172 => (if t172 = true then ((gf_Exp.f a1).bind fun t173 => ((ramekinref2_Exp.f a1).bind fun t174 => (if t173 = t174 then ((gf_Log.f a0).bind fun t175 => ((ramekinref2_Log.f a0).bind fun t176 => (if t175 = t176 then ((gf_Inv.f a0).bind fun t177 => ((ramekinref2_Inv.f a0).bind fun t178 => (if t177 = t178 then ((gf_Pow.f a0 a1).bind fun t179 => ((ramekinref2_Pow.f a0 a1).bind fun t180 => (if t179 = t180 then ((ramekinlaw2_within.f a1 9).bind fun t181 => ((gf_Pow.f a0 (wrap64 (t181 - 4))).bind fun t182 => ((ramekinref2_Pow.f a0 (wrap64 (t181 - 4))).bind fun t183 => (some (t182 == t183))))) else (some false)))) else (some false)))) else (some false)))) else (some false)))) else (some false))) = some r := h
  clear h
  replace H := Option.bind_eq_some_iff.mp H
  obtain ⟨t172, A30, H⟩ := H
  replace H : (if t172 = true then ((gf_Exp.f a1).bind fun t173 => ((ramekinref2_Exp.f a1).bind fun t174 => (if t173 = t174 then ((gf_Log.f a0).bind fun t175 => ((ramekinref2_Log.f a0).bind fun t176 => (if t175 = t176 then ((gf_Inv.f a0).bind fun t177 => ((ramekinref2_Inv.f a0).bind fun t178 => (if t177 = t178 then ((gf_Pow.f a0 a1).bind fun t179 => ((ramekinref2_Pow.f a0 a1).bind fun t180 => (if t179 = t180 then ((ramekinlaw2_within.f a1 9).bind fun t181 => ((gf_Pow.f a0 (wrap64 (t181 - 4))).bind fun t182 => ((ramekinref2_Pow.f a0 (wrap64 (t181 - 4))).bind fun t183 => (some (t182 == t183))))) else (some false)))) else (some false)))) else (some false)))) else (some false)))) else (some false)) = some r := H
  have A3 := Aside0.mk A30
  clear A30
  by_cases c4 : t172 = true
  · subst c4
    have H1 : ((gf_Exp.f a1).bind fun t173 => ((ramekinref2_Exp.f a1).bind fun t174 => (if t173 = t174 then ((gf_Log.f a0).bind fun t175 => ((ramekinref2_Log.f a0).bind fun t176 => (if t175 = t176 then ((gf_Inv.f a0).bind fun t177 => ((ramekinref2_Inv.f a0).bind fun t178 => (if t177 = t178 then ((gf_Pow.f a0 a1).bind fun t179 => ((ramekinref2_Pow.f a0 a1).bind fun t180 => (if t179 = t180 then ((ramekinlaw2_within.f a1 9).bind fun t181 => ((gf_Pow.f a0 (wrap64 (t181 - 4))).bind fun t182 => ((ramekinref2_Pow.f a0 (wrap64 (t181 - 4))).bind fun t183 => (some (t182 == t183))))) else (some false)))) else (some false)))) else (some false)))) else (some false)))) = some r := by rw [if_pos rfl] at H; exact H
    clear H
    have H := H1
    clear H1
    replace H := Option.bind_eq_some_iff.mp H
    obtain ⟨t173, A50, H⟩ := H
    replace H : ((ramekinref2_Exp.f a1).bind fun t174 => (if t173 = t174 then ((gf_Log.f a0).bind fun t175 => ((ramekinref2_Log.f a0).bind fun t176 => (if t175 = t176 then ((gf_Inv.f a0).bind fun t177 => ((ramekinref2_Inv.f a0).bind fun t178 => (if t177 = t178 then ((gf_Pow.f a0 a1).bind fun t179 => ((ramekinref2_Pow.f a0 a1).bind fun t180 => (if t179 = t180 then ((ramekinlaw2_within.f a1 9).bind fun t181 => ((gf_Pow.f a0 (wrap64 (t181 - 4))).bind fun t182 => ((ramekinref2_Pow.f a0 (wrap64 (t181 - 4))).bind fun t183 => (some (t182 == t183))))) else (some false)))) else (some false)))) else (some false)))) else (some false))) = some r := H
    have A5 := Aside0.mk A50
    clear A50
    replace H := Option.bind_eq_some_iff.mp H
    obtain ⟨t174, A60, H⟩ := H
    replace H : (if t173 = t174 then ((gf_Log.f a0).bind fun t175 => ((ramekinref2_Log.f a0).bind fun t176 => (if t175 = t176 then ((gf_Inv.f a0).bind fun t177 => ((ramekinref2_Inv.f a0).bind fun t178 => (if t177 = t178 then ((gf_Pow.f a0 a1).bind fun t179 => ((ramekinref2_Pow.f a0 a1).bind fun t180 => (if t179 = t180 then ((ramekinlaw2_within.f a1 9).bind fun t181 => ((gf_Pow.f a0 (wrap64 (t181 - 4))).bind fun t182 => ((ramekinref2_Pow.f a0 (wrap64 (t181 - 4))).bind fun t183 => (some (t182 == t183))))) else (some false)))) else (some false)))) else (some false)))) else (some false)) = some r := H
    have A6 := Aside0.mk A60
    clear A60
    by_cases c7 : t173 = t174
    · rw [if_pos c7] at H
      have c7b0 : (t173 == t174) = true := beq_iff_eq.mpr c7
      have c7b1 : (t173 != t174) = false := bne_eq_false_iff_eq.mpr c7
      clear c7
      replace H := Option.bind_eq_some_iff.mp H
      obtain ⟨t175, A80, H⟩ := H
      replace H : ((ramekinref2_Log.f a0).bind fun t176 => (if t175 = t176 then ((gf_Inv.f a0).bind fun t177 => ((ramekinref2_Inv.f a0).bind fun t178 => (if t177 = t178 then ((gf_Pow.f a0 a1).bind fun t179 => ((ramekinref2_Pow.f a0 a1).bind fun t180 => (if t179 = t180 then ((ramekinlaw2_within.f a1 9).bind fun t181 => ((gf_Pow.f a0 (wrap64 (t181 - 4))).bind fun t182 => ((ramekinref2_Pow.f a0 (wrap64 (t181 - 4))).bind fun t183 => (some (t182 == t183))))) else (some false)))) else (some false)))) else (some false))) = some r := H
      have A8 := Aside0.mk A80
      clear A80
      replace H := Option.bind_eq_some_iff.mp H
      obtain ⟨t176, A90, H⟩ := H
      replace H : (if t175 = t176 then ((gf_Inv.f a0).bind fun t177 => ((ramekinref2_Inv.f a0).bind fun t178 => (if t177 = t178 then ((gf_Pow.f a0 a1).bind fun t179 => ((ramekinref2_Pow.f a0 a1).bind fun t180 => (if t179 = t180 then ((ramekinlaw2_within.f a1 9).bind fun t181 => ((gf_Pow.f a0 (wrap64 (t181 - 4))).bind fun t182 => ((ramekinref2_Pow.f a0 (wrap64 (t181 - 4))).bind fun t183 => (some (t182 == t183))))) else (some false)))) else (some false)))) else (some false)) = some r := H
      have A9 := Aside0.mk A90
      clear A90
      by_cases c10 : t175 = t176
      · rw [if_pos c10] at H
        have c10b0 : (t175 == t176) = true := beq_iff_eq.mpr c10
        have c10b1 : (t175 != t176) = false := bne_eq_false_iff_eq.mpr c10
        clear c10
        replace H := Option.bind_eq_some_iff.mp H
        obtain ⟨t177, A110, H⟩ := H
        replace H : ((ramekinref2_Inv.f a0).bind fun t178 => (if t177 = t178 then ((gf_Pow.f a0 a1).bind fun t179 => ((ramekinref2_Pow.f a0 a1).bind fun t180 => (if t179 = t180 then ((ramekinlaw2_within.f a1 9).bind fun t181 => ((gf_Pow.f a0 (wrap64 (t181 - 4))).bind fun t182 => ((ramekinref2_Pow.f a0 (wrap64 (t181 - 4))).bind fun t183 => (some (t182 == t183))))) else (some false)))) else (some false))) = some r := H
        have A11 := Aside0.mk A110
        clear A110
        replace H := Option.bind_eq_some_iff.mp H
        obtain ⟨t178, A120, H⟩ := H
        replace H : (if t177 = t178 then ((gf_Pow.f a0 a1).bind fun t179 => ((ramekinref2_Pow.f a0 a1).bind fun t180 => (if t179 = t180 then ((ramekinlaw2_within.f a1 9).bind fun t181 => ((gf_Pow.f a0 (wrap64 (t181 - 4))).bind fun t182 => ((ramekinref2_Pow.f a0 (wrap64 (t181 - 4))).bind fun t183 => (some (t182 == t183))))) else (some false)))) else (some false)) = some r := H
        have A12 := Aside0.mk A120
        clear A120
        by_cases c13 : t177 = t178
        · rw [if_pos c13] at H
          have c13b0 : (t177 == t178) = true := beq_iff_eq.mpr c13
          have c13b1 : (t177 != t178) = false := bne_eq_false_iff_eq.mpr c13
          clear c13
          replace H := Option.bind_eq_some_iff.mp H
          obtain ⟨t179, A140, H⟩ := H
          replace H : ((ramekinref2_Pow.f a0 a1).bind fun t180 => (if t179 = t180 then ((ramekinlaw2_within.f a1 9).bind fun t181 => ((gf_Pow.f a0 (wrap64 (t181 - 4))).bind fun t182 => ((ramekinref2_Pow.f a0 (wrap64 (t181 - 4))).bind fun t183 => (some (t182 == t183))))) else (some false))) = some r := H
          have A14 := Aside0.mk A140
          clear A140
          replace H := Option.bind_eq_some_iff.mp H
          obtain ⟨t180, A150, H⟩ := H
          replace H : (if t179 = t180 then ((ramekinlaw2_within.f a1 9).bind fun t181 => ((gf_Pow.f a0 (wrap64 (t181 - 4))).bind fun t182 => ((ramekinref2_Pow.f a0 (wrap64 (t181 - 4))).bind fun t183 => (some (t182 == t183))))) else (some false)) = some r := H
          have A15 := Aside0.mk A150
          clear A150
          by_cases c16 : t179 = t180
          · rw [if_pos c16] at H
            have c16b0 : (t179 == t180) = true := beq_iff_eq.mpr c16
            have c16b1 : (t179 != t180) = false := bne_eq_false_iff_eq.mpr c16
            clear c16
            replace H := Option.bind_eq_some_iff.mp H
            obtain ⟨t181, A170, H⟩ := H
            replace H : ((gf_Pow.f a0 (wrap64 (t181 - 4))).bind fun t182 => ((ramekinref2_Pow.f a0 (wrap64 (t181 - 4))).bind fun t183 => (some (t182 == t183)))) = some r := H
            have A17 := Aside0.mk A170
            clear A170
            replace H := Option.bind_eq_some_iff.mp H
            obtain ⟨t182, A180, H⟩ := H
            replace H : ((ramekinref2_Pow.f a0 (wrap64 (t181 - 4))).bind fun t183 => (some (t182 == t183))) = some r := H
            have A18 := Aside0.mk A180
            clear A180
            replace H := Option.bind_eq_some_iff.mp H
            obtain ⟨t183, A190, H⟩ := H
            replace H : (some (t182 == t183)) = some r := H
            have A19 := Aside0.mk A190
            clear A190
            obtain rfl := Option.some.inj H
            go_enter Try.func10, Try.ntmps10
            go_wp2_with (first | ((with_reducible refine gate_callee (f := 12) rfl ?_); refine goesL_ (some 5) rfl rfl Try.func12 (by kernel_rfl) rfl #[] rfl (by (try simp only [List.map_toArray, List.map_cons, List.map_nil]); first | done | rfl | (simp only [List.length_drop, List.length_take]; rfl)) ?_; (with_reducible refine (ramekinlaw2_known.calls  true _ A3.out).mono ?_); rintro e w20 ⟨rfl, hb⟩; refine ⟨_, rfl, ?_⟩; have n0_ := Aside0.mk (below_step (by repeat (first | (with_reducible first | exact HB.out | apply below_alloc | apply pw_below_drewN | apply below_drew1) | exact HB.out)) hb); clear HB; have HB := n0_; clear n0_; (try clear hb); (try clear hb2); (try clear hk); (try clear hi)) | ((with_reducible refine gate_callee (f := 17) rfl ?_); refine goesL_ (some 8) rfl rfl Try.func17 (by kernel_rfl) rfl #[.int .i64 a1] rfl (by (try simp only [List.map_toArray, List.map_cons, List.map_nil]); first | done | rfl | (simp only [List.length_drop, List.length_take]; rfl)) ?_; (with_reducible refine (gf_Exp.calls a1 t173 _ A5.out).mono ?_); rintro e w21 ⟨rfl, hb⟩; refine ⟨_, rfl, ?_⟩; have n0_ := Aside0.mk (below_step (by repeat (first | (with_reducible first | exact HB.out | apply below_alloc | apply pw_below_drewN | apply below_drew1) | exact HB.out)) hb); clear HB; have HB := n0_; clear n0_; (try clear hb); (try clear hb2); (try clear hk); (try clear hi)) | ((with_reducible refine gate_callee (f := 21) rfl ?_); refine goesL_ (some 10) rfl rfl Try.func21 (by kernel_rfl) rfl #[.int .i64 a1] rfl (by (try simp only [List.map_toArray, List.map_cons, List.map_nil]); first | done | rfl | (simp only [List.length_drop, List.length_take]; rfl)) ?_; (with_reducible refine (ramekinref2_Exp.calls a1 t174 _ A6.out).mono ?_); rintro e w' ⟨rfl, ⟨nd, rfl⟩⟩; refine ⟨_, rfl, ?_⟩) | (go_at_call 19; (with_reducible refine (gf_Log.calls a0 t175 _ A8.out).mono ?_); rintro e w' ⟨rfl, ⟨nd, rfl⟩⟩) | (go_at_call 20; (with_reducible refine (ramekinref2_Log.calls a0 t176 _ A9.out).mono ?_); rintro e w' ⟨rfl, ⟨nd, rfl⟩⟩) | (go_at_call 18; (with_reducible refine (gf_Inv.calls a0 t177 _ A11.out).mono ?_); rintro e w22 ⟨rfl, hb⟩; have n0_ := Aside0.mk (below_step (by repeat (first | (with_reducible first | exact HB.out | apply below_alloc | apply pw_below_drewN | apply below_drew1) | exact HB.out)) hb); clear HB; have HB := n0_; clear n0_; (try clear hb); (try clear hb2); (try clear hk); (try clear hi)) | (go_at_call 22; (with_reducible refine (ramekinref2_Inv.calls a0 t178 _ A12.out).mono ?_); rintro e w' ⟨rfl, ⟨nd, rfl⟩⟩) | (go_at_call 15; (with_reducible refine (gf_Pow.calls a0 a1 t179 _ A14.out).mono ?_); rintro e w23 ⟨rfl, hb⟩; have n0_ := Aside0.mk (below_step (by repeat (first | (with_reducible first | exact HB.out | apply below_alloc | apply pw_below_drewN | apply below_drew1) | exact HB.out)) hb); clear HB; have HB := n0_; clear n0_; (try clear hb); (try clear hb2); (try clear hk); (try clear hi)) | (go_at_call 23; (with_reducible refine (ramekinref2_Pow.calls a0 a1 t180 _ A15.out).mono ?_); rintro e w' ⟨rfl, ⟨nd, rfl⟩⟩) | (go_at_call 16; (with_reducible refine (ramekinlaw2_within.calls a1 9 t181 _ A17.out).mono ?_); rintro e w' ⟨rfl, ⟨nd, rfl⟩⟩) | (go_at_call 15; (with_reducible refine (gf_Pow.calls a0 (wrap64 (t181 - 4)) t182 _ A18.out).mono ?_); rintro e w24 ⟨rfl, hb⟩; have n0_ := Aside0.mk (below_step (by repeat (first | (with_reducible first | exact HB.out | apply below_alloc | apply pw_below_drewN | apply below_drew1) | exact HB.out)) hb); clear HB; have HB := n0_; clear n0_; (try clear hb); (try clear hb2); (try clear hk); (try clear hi)) | (go_at_call 23; (with_reducible refine (ramekinref2_Pow.calls a0 (wrap64 (t181 - 4)) t183 _ A19.out).mono ?_); rintro e w' ⟨rfl, ⟨nd, rfl⟩⟩))
            go_ret
            exact ⟨by first | rfl | (simp [errW_none, errW_some] <;> rfl) | (simp [*, errW_none, errW_some] <;> rfl), by repeat (first | (with_reducible first | exact HB.out | apply below_alloc | apply pw_below_drewN | apply below_drew1) | exact HB.out)⟩
          · rw [if_neg c16] at H
            have c16b0 : (t179 == t180) = false := beq_eq_false_iff_ne.mpr c16
            have c16b1 : (t179 != t180) = true := bne_iff_ne.mpr c16
            obtain rfl := Option.some.inj H
            go_enter Try.func10, Try.ntmps10
            go_wp2_with (first | ((with_reducible refine gate_callee (f := 12) rfl ?_); refine goesL_ (some 5) rfl rfl Try.func12 (by kernel_rfl) rfl #[] rfl (by (try simp only [List.map_toArray, List.map_cons, List.map_nil]); first | done | rfl | (simp only [List.length_drop, List.length_take]; rfl)) ?_; (with_reducible refine (ramekinlaw2_known.calls  true _ A3.out).mono ?_); rintro e w25 ⟨rfl, hb⟩; refine ⟨_, rfl, ?_⟩; have n0_ := Aside0.mk (below_step (by repeat (first | (with_reducible first | exact HB.out | apply below_alloc | apply pw_below_drewN | apply below_drew1) | exact HB.out)) hb); clear HB; have HB := n0_; clear n0_; (try clear hb); (try clear hb2); (try clear hk); (try clear hi)) | ((with_reducible refine gate_callee (f := 17) rfl ?_); refine goesL_ (some 8) rfl rfl Try.func17 (by kernel_rfl) rfl #[.int .i64 a1] rfl (by (try simp only [List.map_toArray, List.map_cons, List.map_nil]); first | done | rfl | (simp only [List.length_drop, List.length_take]; rfl)) ?_; (with_reducible refine (gf_Exp.calls a1 t173 _ A5.out).mono ?_); rintro e w26 ⟨rfl, hb⟩; refine ⟨_, rfl, ?_⟩; have n0_ := Aside0.mk (below_step (by repeat (first | (with_reducible first | exact HB.out | apply below_alloc | apply pw_below_drewN | apply below_drew1) | exact HB.out)) hb); clear HB; have HB := n0_; clear n0_; (try clear hb); (try clear hb2); (try clear hk); (try clear hi)) | ((with_reducible refine gate_callee (f := 21) rfl ?_); refine goesL_ (some 10) rfl rfl Try.func21 (by kernel_rfl) rfl #[.int .i64 a1] rfl (by (try simp only [List.map_toArray, List.map_cons, List.map_nil]); first | done | rfl | (simp only [List.length_drop, List.length_take]; rfl)) ?_; (with_reducible refine (ramekinref2_Exp.calls a1 t174 _ A6.out).mono ?_); rintro e w' ⟨rfl, ⟨nd, rfl⟩⟩; refine ⟨_, rfl, ?_⟩) | (go_at_call 19; (with_reducible refine (gf_Log.calls a0 t175 _ A8.out).mono ?_); rintro e w' ⟨rfl, ⟨nd, rfl⟩⟩) | (go_at_call 20; (with_reducible refine (ramekinref2_Log.calls a0 t176 _ A9.out).mono ?_); rintro e w' ⟨rfl, ⟨nd, rfl⟩⟩) | (go_at_call 18; (with_reducible refine (gf_Inv.calls a0 t177 _ A11.out).mono ?_); rintro e w27 ⟨rfl, hb⟩; have n0_ := Aside0.mk (below_step (by repeat (first | (with_reducible first | exact HB.out | apply below_alloc | apply pw_below_drewN | apply below_drew1) | exact HB.out)) hb); clear HB; have HB := n0_; clear n0_; (try clear hb); (try clear hb2); (try clear hk); (try clear hi)) | (go_at_call 22; (with_reducible refine (ramekinref2_Inv.calls a0 t178 _ A12.out).mono ?_); rintro e w' ⟨rfl, ⟨nd, rfl⟩⟩) | (go_at_call 15; (with_reducible refine (gf_Pow.calls a0 a1 t179 _ A14.out).mono ?_); rintro e w28 ⟨rfl, hb⟩; have n0_ := Aside0.mk (below_step (by repeat (first | (with_reducible first | exact HB.out | apply below_alloc | apply pw_below_drewN | apply below_drew1) | exact HB.out)) hb); clear HB; have HB := n0_; clear n0_; (try clear hb); (try clear hb2); (try clear hk); (try clear hi)) | (go_at_call 23; (with_reducible refine (ramekinref2_Pow.calls a0 a1 t180 _ A15.out).mono ?_); rintro e w' ⟨rfl, ⟨nd, rfl⟩⟩))
            go_ret
            exact ⟨by first | rfl | (simp [errW_none, errW_some] <;> rfl) | (simp [*, errW_none, errW_some] <;> rfl), by repeat (first | (with_reducible first | exact HB.out | apply below_alloc | apply pw_below_drewN | apply below_drew1) | exact HB.out)⟩
        · rw [if_neg c13] at H
          have c13b0 : (t177 == t178) = false := beq_eq_false_iff_ne.mpr c13
          have c13b1 : (t177 != t178) = true := bne_iff_ne.mpr c13
          obtain rfl := Option.some.inj H
          go_enter Try.func10, Try.ntmps10
          go_wp2_with (first | ((with_reducible refine gate_callee (f := 12) rfl ?_); refine goesL_ (some 5) rfl rfl Try.func12 (by kernel_rfl) rfl #[] rfl (by (try simp only [List.map_toArray, List.map_cons, List.map_nil]); first | done | rfl | (simp only [List.length_drop, List.length_take]; rfl)) ?_; (with_reducible refine (ramekinlaw2_known.calls  true _ A3.out).mono ?_); rintro e w29 ⟨rfl, hb⟩; refine ⟨_, rfl, ?_⟩; have n0_ := Aside0.mk (below_step (by repeat (first | (with_reducible first | exact HB.out | apply below_alloc | apply pw_below_drewN | apply below_drew1) | exact HB.out)) hb); clear HB; have HB := n0_; clear n0_; (try clear hb); (try clear hb2); (try clear hk); (try clear hi)) | ((with_reducible refine gate_callee (f := 17) rfl ?_); refine goesL_ (some 8) rfl rfl Try.func17 (by kernel_rfl) rfl #[.int .i64 a1] rfl (by (try simp only [List.map_toArray, List.map_cons, List.map_nil]); first | done | rfl | (simp only [List.length_drop, List.length_take]; rfl)) ?_; (with_reducible refine (gf_Exp.calls a1 t173 _ A5.out).mono ?_); rintro e w30 ⟨rfl, hb⟩; refine ⟨_, rfl, ?_⟩; have n0_ := Aside0.mk (below_step (by repeat (first | (with_reducible first | exact HB.out | apply below_alloc | apply pw_below_drewN | apply below_drew1) | exact HB.out)) hb); clear HB; have HB := n0_; clear n0_; (try clear hb); (try clear hb2); (try clear hk); (try clear hi)) | ((with_reducible refine gate_callee (f := 21) rfl ?_); refine goesL_ (some 10) rfl rfl Try.func21 (by kernel_rfl) rfl #[.int .i64 a1] rfl (by (try simp only [List.map_toArray, List.map_cons, List.map_nil]); first | done | rfl | (simp only [List.length_drop, List.length_take]; rfl)) ?_; (with_reducible refine (ramekinref2_Exp.calls a1 t174 _ A6.out).mono ?_); rintro e w' ⟨rfl, ⟨nd, rfl⟩⟩; refine ⟨_, rfl, ?_⟩) | (go_at_call 19; (with_reducible refine (gf_Log.calls a0 t175 _ A8.out).mono ?_); rintro e w' ⟨rfl, ⟨nd, rfl⟩⟩) | (go_at_call 20; (with_reducible refine (ramekinref2_Log.calls a0 t176 _ A9.out).mono ?_); rintro e w' ⟨rfl, ⟨nd, rfl⟩⟩) | (go_at_call 18; (with_reducible refine (gf_Inv.calls a0 t177 _ A11.out).mono ?_); rintro e w31 ⟨rfl, hb⟩; have n0_ := Aside0.mk (below_step (by repeat (first | (with_reducible first | exact HB.out | apply below_alloc | apply pw_below_drewN | apply below_drew1) | exact HB.out)) hb); clear HB; have HB := n0_; clear n0_; (try clear hb); (try clear hb2); (try clear hk); (try clear hi)) | (go_at_call 22; (with_reducible refine (ramekinref2_Inv.calls a0 t178 _ A12.out).mono ?_); rintro e w' ⟨rfl, ⟨nd, rfl⟩⟩))
          go_ret
          exact ⟨by first | rfl | (simp [errW_none, errW_some] <;> rfl) | (simp [*, errW_none, errW_some] <;> rfl), by repeat (first | (with_reducible first | exact HB.out | apply below_alloc | apply pw_below_drewN | apply below_drew1) | exact HB.out)⟩
      · rw [if_neg c10] at H
        have c10b0 : (t175 == t176) = false := beq_eq_false_iff_ne.mpr c10
        have c10b1 : (t175 != t176) = true := bne_iff_ne.mpr c10
        obtain rfl := Option.some.inj H
        go_enter Try.func10, Try.ntmps10
        go_wp2_with (first | ((with_reducible refine gate_callee (f := 12) rfl ?_); refine goesL_ (some 5) rfl rfl Try.func12 (by kernel_rfl) rfl #[] rfl (by (try simp only [List.map_toArray, List.map_cons, List.map_nil]); first | done | rfl | (simp only [List.length_drop, List.length_take]; rfl)) ?_; (with_reducible refine (ramekinlaw2_known.calls  true _ A3.out).mono ?_); rintro e w32 ⟨rfl, hb⟩; refine ⟨_, rfl, ?_⟩; have n0_ := Aside0.mk (below_step (by repeat (first | (with_reducible first | exact HB.out | apply below_alloc | apply pw_below_drewN | apply below_drew1) | exact HB.out)) hb); clear HB; have HB := n0_; clear n0_; (try clear hb); (try clear hb2); (try clear hk); (try clear hi)) | ((with_reducible refine gate_callee (f := 17) rfl ?_); refine goesL_ (some 8) rfl rfl Try.func17 (by kernel_rfl) rfl #[.int .i64 a1] rfl (by (try simp only [List.map_toArray, List.map_cons, List.map_nil]); first | done | rfl | (simp only [List.length_drop, List.length_take]; rfl)) ?_; (with_reducible refine (gf_Exp.calls a1 t173 _ A5.out).mono ?_); rintro e w33 ⟨rfl, hb⟩; refine ⟨_, rfl, ?_⟩; have n0_ := Aside0.mk (below_step (by repeat (first | (with_reducible first | exact HB.out | apply below_alloc | apply pw_below_drewN | apply below_drew1) | exact HB.out)) hb); clear HB; have HB := n0_; clear n0_; (try clear hb); (try clear hb2); (try clear hk); (try clear hi)) | ((with_reducible refine gate_callee (f := 21) rfl ?_); refine goesL_ (some 10) rfl rfl Try.func21 (by kernel_rfl) rfl #[.int .i64 a1] rfl (by (try simp only [List.map_toArray, List.map_cons, List.map_nil]); first | done | rfl | (simp only [List.length_drop, List.length_take]; rfl)) ?_; (with_reducible refine (ramekinref2_Exp.calls a1 t174 _ A6.out).mono ?_); rintro e w' ⟨rfl, ⟨nd, rfl⟩⟩; refine ⟨_, rfl, ?_⟩) | (go_at_call 19; (with_reducible refine (gf_Log.calls a0 t175 _ A8.out).mono ?_); rintro e w' ⟨rfl, ⟨nd, rfl⟩⟩) | (go_at_call 20; (with_reducible refine (ramekinref2_Log.calls a0 t176 _ A9.out).mono ?_); rintro e w' ⟨rfl, ⟨nd, rfl⟩⟩))
        go_ret
        exact ⟨by first | rfl | (simp [errW_none, errW_some] <;> rfl) | (simp [*, errW_none, errW_some] <;> rfl), by repeat (first | (with_reducible first | exact HB.out | apply below_alloc | apply pw_below_drewN | apply below_drew1) | exact HB.out)⟩
    · rw [if_neg c7] at H
      have c7b0 : (t173 == t174) = false := beq_eq_false_iff_ne.mpr c7
      have c7b1 : (t173 != t174) = true := bne_iff_ne.mpr c7
      obtain rfl := Option.some.inj H
      go_enter Try.func10, Try.ntmps10
      go_wp2_with (first | ((with_reducible refine gate_callee (f := 12) rfl ?_); refine goesL_ (some 5) rfl rfl Try.func12 (by kernel_rfl) rfl #[] rfl (by (try simp only [List.map_toArray, List.map_cons, List.map_nil]); first | done | rfl | (simp only [List.length_drop, List.length_take]; rfl)) ?_; (with_reducible refine (ramekinlaw2_known.calls  true _ A3.out).mono ?_); rintro e w34 ⟨rfl, hb⟩; refine ⟨_, rfl, ?_⟩; have n0_ := Aside0.mk (below_step (by repeat (first | (with_reducible first | exact HB.out | apply below_alloc | apply pw_below_drewN | apply below_drew1) | exact HB.out)) hb); clear HB; have HB := n0_; clear n0_; (try clear hb); (try clear hb2); (try clear hk); (try clear hi)) | ((with_reducible refine gate_callee (f := 17) rfl ?_); refine goesL_ (some 8) rfl rfl Try.func17 (by kernel_rfl) rfl #[.int .i64 a1] rfl (by (try simp only [List.map_toArray, List.map_cons, List.map_nil]); first | done | rfl | (simp only [List.length_drop, List.length_take]; rfl)) ?_; (with_reducible refine (gf_Exp.calls a1 t173 _ A5.out).mono ?_); rintro e w35 ⟨rfl, hb⟩; refine ⟨_, rfl, ?_⟩; have n0_ := Aside0.mk (below_step (by repeat (first | (with_reducible first | exact HB.out | apply below_alloc | apply pw_below_drewN | apply below_drew1) | exact HB.out)) hb); clear HB; have HB := n0_; clear n0_; (try clear hb); (try clear hb2); (try clear hk); (try clear hi)) | ((with_reducible refine gate_callee (f := 21) rfl ?_); refine goesL_ (some 10) rfl rfl Try.func21 (by kernel_rfl) rfl #[.int .i64 a1] rfl (by (try simp only [List.map_toArray, List.map_cons, List.map_nil]); first | done | rfl | (simp only [List.length_drop, List.length_take]; rfl)) ?_; (with_reducible refine (ramekinref2_Exp.calls a1 t174 _ A6.out).mono ?_); rintro e w' ⟨rfl, ⟨nd, rfl⟩⟩; refine ⟨_, rfl, ?_⟩))
      go_ret
      exact ⟨by first | rfl | (simp [errW_none, errW_some] <;> rfl) | (simp [*, errW_none, errW_some] <;> rfl), by repeat (first | (with_reducible first | exact HB.out | apply below_alloc | apply pw_below_drewN | apply below_drew1) | exact HB.out)⟩
  · replace c4 := Bool.eq_false_iff.mpr c4
    subst c4
    have H1 : (some false) = some r := by rw [if_neg (show ¬ (false = true) by decide)] at H; exact H
    clear H
    have H := H1
    clear H1
    obtain rfl := Option.some.inj H
    go_enter Try.func10, Try.ntmps10
    go_wp2_with (first | ((with_reducible refine gate_callee (f := 12) rfl ?_); refine goesL_ (some 5) rfl rfl Try.func12 (by kernel_rfl) rfl #[] rfl (by (try simp only [List.map_toArray, List.map_cons, List.map_nil]); first | done | rfl | (simp only [List.length_drop, List.length_take]; rfl)) ?_; (with_reducible refine (ramekinlaw2_known.calls  false _ A3.out).mono ?_); rintro e w36 ⟨rfl, hb⟩; refine ⟨_, rfl, ?_⟩; have n0_ := Aside0.mk (below_step (by repeat (first | (with_reducible first | exact HB.out | apply below_alloc | apply pw_below_drewN | apply below_drew1) | exact HB.out)) hb); clear HB; have HB := n0_; clear n0_; (try clear hb); (try clear hb2); (try clear hk); (try clear hi)))
    go_ret
    exact ⟨by first | rfl | (simp [errW_none, errW_some] <;> rfl) | (simp [*, errW_none, errW_some] <;> rfl), by repeat (first | (with_reducible first | exact HB.out | apply below_alloc | apply pw_below_drewN | apply below_drew1) | exact HB.out)⟩

/-- THE ONE PURE STATEMENT of ramekinlaw2_GfPowers: yours. -/
def ramekinlaw2_GfPowers.Pure : Prop := ∀ (a0 : Int) (a1 : Int), (Lit.int .u8 a0).wf = true → (Lit.int .i64 a1).wf = true → ramekinlaw2_GfPowers.f a0 a1 = some true
theorem ramekinlaw2_GfPowers.walk (P : ramekinlaw2_GfPowers.Pure) (a0 : Int) (a1 : Int) (w : World) (w0 : (Lit.int .u8 a0).wf = true) (w1 : (Lit.int .i64 a1).wf = true) :
    Calls Try.prog 10 #[.int .u8 a0, .int .i64 a1] w fun e w' => e = .returned (.bool true) ∧ Below w.heap.size w w' := by
  have h := P a0 a1 w0 w1
  refine (ramekinlaw2_GfPowers.calls a0 a1 true w h).mono ?_
  rintro e w' ⟨rfl, hd⟩
  exact ⟨rfl, hd⟩

end Go.Proofs.Ytlbaacellnlpfaa.QA
