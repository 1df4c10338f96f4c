-- Written by a program of this session's (ownprint.py, over the kit's print.py); Lean checks it.
import Derived.Test.YtlbaacellnlpfaaQA0
import Derived.Test.YtlbaacellnlpfaaQA1
import Derived.Test.YtlbaacellnlpfaaQA5
import Derived.Test.YtlbaacellnlpfaaQA8
import Derived.Test.YtlbaacellnlpfaaQA10
namespace Go.Proofs.Ytlbaacellnlpfaa.QA
open Go.RowKit Go.Proofs.YtlbaacellnlpfaaW.PrintWords Go.Proofs.YtlbaacellnlpfaaW.PrintLast Go.Proofs.YtlbaacellnlpfaaW.PrintMore
attribute [local go_sem] max2_int min2_int max_two min_two max_three min_three max_four min_four   -- for this text's walks alone
set_option linter.unusedVariables false
set_option linter.unusedSimpArgs false

/-! ### ramekinlaw2_GfField: function 11 -/
def ramekinlaw2_GfField.j0 : Nat → Int → Bool → Option (Bool)
  | 0, _, _ => none
  | k + 1, x0, x45 => if x45 = true then (some false) else (if x0 = 0 then ((gf_Inv.f x0).bind fun t194 => (if t194 = 0 then ((gf_Log.f x0).bind fun t195 => (some (t195 == (-1)))) else (some false))) else ((gf_Inv.f x0).bind fun t196 => ((gf_Mul.f x0 t196).bind fun t197 => (if t197 = 1 then ((gf_Log.f x0).bind fun t198 => ((gf_Exp.f t198).bind fun t199 => (some (t199 == x0)))) else (some false)))))
def ramekinlaw2_GfField.f (k : Nat) (a0 : Int) (a1 : Int) (a2 : Int) : Option (Bool) := (ramekinlaw2_known.f).bind fun t184 => (if t184 = true then ((gf_Mul.f a0 a1).bind fun t185 => ((gf_Mul.f t185 a2).bind fun t186 => ((gf_Mul.f a1 a2).bind fun t187 => ((gf_Mul.f a0 t187).bind fun t188 => (if t186 = t188 then ((gf_Mul.f a0 (Go.bits .xor .u8 a1 a2)).bind fun t189 => ((gf_Mul.f a0 a1).bind fun t190 => ((gf_Mul.f a0 a2).bind fun t191 => (if t189 = (Go.bits .xor .u8 t190 t191) then ((gf_Mul.f a0 1).bind fun t192 => (if t192 = a0 then ((gf_Mul.f a0 0).bind fun t193 => (ramekinlaw2_GfField.j0 k a0 (t193 != 0))) else (ramekinlaw2_GfField.j0 k a0 true))) else (ramekinlaw2_GfField.j0 k a0 true))))) else (ramekinlaw2_GfField.j0 k a0 true)))))) else (some false))
theorem ramekinlaw2_GfField.mono_l : ∀ k, (∀ y0 y1, LeO (ramekinlaw2_GfField.j0 k y0 y1) (ramekinlaw2_GfField.j0 (k + 1) y0 y1))
  | 0 => fun _ _ r h => by simp [ramekinlaw2_GfField.j0] at h
  | k + 1 => by
    have ih0 := ramekinlaw2_GfField.mono_l k
    · intro y0 y1
      unfold ramekinlaw2_GfField.j0
      repeat' first
      | (with_reducible exact ih0 _ _)
      | (with_reducible exact LeO.refl _)
      | (with_reducible exact LeO.none _)
      | (with_reducible refine LeO.ite ?_ ?_)
      | (with_reducible refine LeO.bind ?_ (fun _ => ?_))
      | exact ih0 _ _
      | exact LeO.none _
      | refine LeO.ite ?_ ?_
      | refine LeO.bind ?_ (fun _ => ?_)
theorem ramekinlaw2_GfField.mono : ∀ a0 a1 a2 k, LeO (ramekinlaw2_GfField.f k a0 a1 a2) (ramekinlaw2_GfField.f (k + 1) a0 a1 a2) := by
  intro a0 a1 a2 k
  have ih0 := ramekinlaw2_GfField.mono_l k
  unfold ramekinlaw2_GfField.f
  repeat' first
      | (with_reducible exact ih0 _ _)
      | (with_reducible exact LeO.refl _)
      | (with_reducible exact LeO.none _)
      | (with_reducible refine LeO.ite ?_ ?_)
      | (with_reducible refine LeO.bind ?_ (fun _ => ?_))
      | exact ih0 _ _
      | exact LeO.none _
      | refine LeO.ite ?_ ?_
      | refine LeO.bind ?_ (fun _ => ?_)
set_option maxHeartbeats 8000000 in
set_option maxRecDepth 100000 in
theorem ramekinlaw2_GfField.calls (k : Nat) (a0 : Int) (a1 : Int) (a2 : Int) (r : Bool) (w : World) (h : ramekinlaw2_GfField.f k a0 a1 a2 = some r) :
    Calls Try.prog 11 #[.int .u8 a0, .int .u8 a1, .int .u8 a2] w fun e w' => e = .returned (.bool r) ∧ Below w.heap.size w w' := by
  have HB := Aside0.mk (Below.refl w.heap.size w)
  have H : ((ramekinlaw2_known.f).bind fun t184 => (if t184 = true then ((gf_Mul.f a0 a1).bind fun t185 => ((gf_Mul.f t185 a2).bind fun t186 => ((gf_Mul.f a1 a2).bind fun t187 => ((gf_Mul.f a0 t187).bind fun t188 => (if t186 = t188 then ((gf_Mul.f a0 (Go.bits .xor .u8 a1 a2)).bind fun t189 => ((gf_Mul.f a0 a1).bind fun t190 => ((gf_Mul.f a0 a2).bind fun t191 => (if t189 = (Go.bits .xor .u8 t190 t191) then ((gf_Mul.f a0 1).bind fun t192 => (if t192 = a0 then ((gf_Mul.f a0 0).bind fun t193 => (ramekinlaw2_GfField.j0 k a0 (t193 != 0))) else (ramekinlaw2_GfField.j0 k a0 true))) else (ramekinlaw2_GfField.j0 k a0 true))))) else (ramekinlaw2_GfField.j0 k a0 true)))))) else (some false))) = some r := h
  clear h
  replace H := Option.bind_eq_some_iff.mp H
  obtain ⟨t184, A40, H⟩ := H
  replace H : (if t184 = true then ((gf_Mul.f a0 a1).bind fun t185 => ((gf_Mul.f t185 a2).bind fun t186 => ((gf_Mul.f a1 a2).bind fun t187 => ((gf_Mul.f a0 t187).bind fun t188 => (if t186 = t188 then ((gf_Mul.f a0 (Go.bits .xor .u8 a1 a2)).bind fun t189 => ((gf_Mul.f a0 a1).bind fun t190 => ((gf_Mul.f a0 a2).bind fun t191 => (if t189 = (Go.bits .xor .u8 t190 t191) then ((gf_Mul.f a0 1).bind fun t192 => (if t192 = a0 then ((gf_Mul.f a0 0).bind fun t193 => (ramekinlaw2_GfField.j0 k a0 (t193 != 0))) else (ramekinlaw2_GfField.j0 k a0 true))) else (ramekinlaw2_GfField.j0 k a0 true))))) else (ramekinlaw2_GfField.j0 k a0 true)))))) else (some false)) = some r := H
  have A4 := Aside0.mk A40
  clear A40
  by_cases c5 : t184 = true
  · subst c5
    have H1 : ((gf_Mul.f a0 a1).bind fun t185 => ((gf_Mul.f t185 a2).bind fun t186 => ((gf_Mul.f a1 a2).bind fun t187 => ((gf_Mul.f a0 t187).bind fun t188 => (if t186 = t188 then ((gf_Mul.f a0 (Go.bits .xor .u8 a1 a2)).bind fun t189 => ((gf_Mul.f a0 a1).bind fun t190 => ((gf_Mul.f a0 a2).bind fun t191 => (if t189 = (Go.bits .xor .u8 t190 t191) then ((gf_Mul.f a0 1).bind fun t192 => (if t192 = a0 then ((gf_Mul.f a0 0).bind fun t193 => (ramekinlaw2_GfField.j0 k a0 (t193 != 0))) else (ramekinlaw2_GfField.j0 k a0 true))) else (ramekinlaw2_GfField.j0 k a0 true))))) else (ramekinlaw2_GfField.j0 k a0 true)))))) = some r := by rw [if_pos rfl] at H; exact H
    clear H
    have H := H1
    clear H1
    have HC6 := Aside0.mk H
    clear H
    go_enter Try.func11, Try.ntmps11
    go_upto_region 3 with (first | ((with_reducible refine gate_callee (f := 12) rfl ?_); refine goesL_ (some 7) rfl rfl Try.func12 (by kernel_rfl) rfl #[] rfl (by (try simp only [List.map_toArray, List.map_cons, List.map_nil]); first | done | rfl | (simp only [List.length_drop, List.length_take]; rfl)) ?_; (with_reducible refine (ramekinlaw2_known.calls  true _ A4.out).mono ?_); rintro e w7 ⟨rfl, hb⟩; refine ⟨_, rfl, ?_⟩; have n0_ := Aside0.mk (below_step (by repeat (first | (with_reducible first | exact HB.out | apply below_alloc | apply pw_below_drewN | apply below_drew1) | exact HB.out)) hb); clear HB; have HB := n0_; clear n0_; (try clear hb); (try clear hb2); (try clear hk); (try clear hi)))
    (try simp only [Act.put, List.setIfInBounds_toArray, List.set_cons_zero, List.set_cons_succ])
    go_cut [45] (fun v45 wc => ∃ (kq : Nat) (x45_5 : Bool), v45 = .bool x45_5 ∧ Aside0 (ramekinlaw2_GfField.j0 kq a0 x45_5 = some r) ∧ Aside0 (kq ≤ k) ∧ Aside0 (Below w.heap.size w wc))
    case first =>
      have H := HC6.out
      clear HC6
      replace H := Option.bind_eq_some_iff.mp H
      obtain ⟨t185, A80, H⟩ := H
      replace H : ((gf_Mul.f t185 a2).bind fun t186 => ((gf_Mul.f a1 a2).bind fun t187 => ((gf_Mul.f a0 t187).bind fun t188 => (if t186 = t188 then ((gf_Mul.f a0 (Go.bits .xor .u8 a1 a2)).bind fun t189 => ((gf_Mul.f a0 a1).bind fun t190 => ((gf_Mul.f a0 a2).bind fun t191 => (if t189 = (Go.bits .xor .u8 t190 t191) then ((gf_Mul.f a0 1).bind fun t192 => (if t192 = a0 then ((gf_Mul.f a0 0).bind fun t193 => (ramekinlaw2_GfField.j0 k a0 (t193 != 0))) else (ramekinlaw2_GfField.j0 k a0 true))) else (ramekinlaw2_GfField.j0 k a0 true))))) else (ramekinlaw2_GfField.j0 k a0 true))))) = some r := H
      have A8 := Aside0.mk A80
      clear A80
      replace H := Option.bind_eq_some_iff.mp H
      obtain ⟨t186, A90, H⟩ := H
      replace H : ((gf_Mul.f a1 a2).bind fun t187 => ((gf_Mul.f a0 t187).bind fun t188 => (if t186 = t188 then ((gf_Mul.f a0 (Go.bits .xor .u8 a1 a2)).bind fun t189 => ((gf_Mul.f a0 a1).bind fun t190 => ((gf_Mul.f a0 a2).bind fun t191 => (if t189 = (Go.bits .xor .u8 t190 t191) then ((gf_Mul.f a0 1).bind fun t192 => (if t192 = a0 then ((gf_Mul.f a0 0).bind fun t193 => (ramekinlaw2_GfField.j0 k a0 (t193 != 0))) else (ramekinlaw2_GfField.j0 k a0 true))) else (ramekinlaw2_GfField.j0 k a0 true))))) else (ramekinlaw2_GfField.j0 k a0 true)))) = some r := H
      have A9 := Aside0.mk A90
      clear A90
      replace H := Option.bind_eq_some_iff.mp H
      obtain ⟨t187, A100, H⟩ := H
      replace H : ((gf_Mul.f a0 t187).bind fun t188 => (if t186 = t188 then ((gf_Mul.f a0 (Go.bits .xor .u8 a1 a2)).bind fun t189 => ((gf_Mul.f a0 a1).bind fun t190 => ((gf_Mul.f a0 a2).bind fun t191 => (if t189 = (Go.bits .xor .u8 t190 t191) then ((gf_Mul.f a0 1).bind fun t192 => (if t192 = a0 then ((gf_Mul.f a0 0).bind fun t193 => (ramekinlaw2_GfField.j0 k a0 (t193 != 0))) else (ramekinlaw2_GfField.j0 k a0 true))) else (ramekinlaw2_GfField.j0 k a0 true))))) else (ramekinlaw2_GfField.j0 k a0 true))) = some r := H
      have A10 := Aside0.mk A100
      clear A100
      replace H := Option.bind_eq_some_iff.mp H
      obtain ⟨t188, A110, H⟩ := H
      replace H : (if t186 = t188 then ((gf_Mul.f a0 (Go.bits .xor .u8 a1 a2)).bind fun t189 => ((gf_Mul.f a0 a1).bind fun t190 => ((gf_Mul.f a0 a2).bind fun t191 => (if t189 = (Go.bits .xor .u8 t190 t191) then ((gf_Mul.f a0 1).bind fun t192 => (if t192 = a0 then ((gf_Mul.f a0 0).bind fun t193 => (ramekinlaw2_GfField.j0 k a0 (t193 != 0))) else (ramekinlaw2_GfField.j0 k a0 true))) else (ramekinlaw2_GfField.j0 k a0 true))))) else (ramekinlaw2_GfField.j0 k a0 true)) = some r := H
      have A11 := Aside0.mk A110
      clear A110
      by_cases c12 : t186 = t188
      · rw [if_pos c12] at H
        have c12b0 : (t186 == t188) = true := beq_iff_eq.mpr c12
        have c12b1 : (t186 != t188) = false := bne_eq_false_iff_eq.mpr c12
        clear c12
        (first | rw [c12b0] | (simp only [i64_w, i32_w]; rw [c12b0]) | skip)
        replace H := Option.bind_eq_some_iff.mp H
        obtain ⟨t189, A130, H⟩ := H
        replace H : ((gf_Mul.f a0 a1).bind fun t190 => ((gf_Mul.f a0 a2).bind fun t191 => (if t189 = (Go.bits .xor .u8 t190 t191) then ((gf_Mul.f a0 1).bind fun t192 => (if t192 = a0 then ((gf_Mul.f a0 0).bind fun t193 => (ramekinlaw2_GfField.j0 k a0 (t193 != 0))) else (ramekinlaw2_GfField.j0 k a0 true))) else (ramekinlaw2_GfField.j0 k a0 true)))) = some r := H
        have A13 := Aside0.mk A130
        clear A130
        replace H := Option.bind_eq_some_iff.mp H
        obtain ⟨t190, A140, H⟩ := H
        replace H : ((gf_Mul.f a0 a2).bind fun t191 => (if t189 = (Go.bits .xor .u8 t190 t191) then ((gf_Mul.f a0 1).bind fun t192 => (if t192 = a0 then ((gf_Mul.f a0 0).bind fun t193 => (ramekinlaw2_GfField.j0 k a0 (t193 != 0))) else (ramekinlaw2_GfField.j0 k a0 true))) else (ramekinlaw2_GfField.j0 k a0 true))) = some r := H
        have A14 := Aside0.mk A140
        clear A140
        replace H := Option.bind_eq_some_iff.mp H
        obtain ⟨t191, A150, H⟩ := H
        replace H : (if t189 = (Go.bits .xor .u8 t190 t191) then ((gf_Mul.f a0 1).bind fun t192 => (if t192 = a0 then ((gf_Mul.f a0 0).bind fun t193 => (ramekinlaw2_GfField.j0 k a0 (t193 != 0))) else (ramekinlaw2_GfField.j0 k a0 true))) else (ramekinlaw2_GfField.j0 k a0 true)) = some r := H
        have A15 := Aside0.mk A150
        clear A150
        by_cases c16 : t189 = (Go.bits .xor .u8 t190 t191)
        · rw [if_pos c16] at H
          have c16b0 : (t189 == (Go.bits .xor .u8 t190 t191)) = true := beq_iff_eq.mpr c16
          have c16b1 : (t189 != (Go.bits .xor .u8 t190 t191)) = false := bne_eq_false_iff_eq.mpr c16
          clear c16
          replace H := Option.bind_eq_some_iff.mp H
          obtain ⟨t192, A170, H⟩ := H
          replace H : (if t192 = a0 then ((gf_Mul.f a0 0).bind fun t193 => (ramekinlaw2_GfField.j0 k a0 (t193 != 0))) else (ramekinlaw2_GfField.j0 k a0 true)) = some r := H
          have A17 := Aside0.mk A170
          clear A170
          by_cases c18 : t192 = a0
          · rw [if_pos c18] at H
            have c18b0 : (t192 == a0) = true := beq_iff_eq.mpr c18
            have c18b1 : (t192 != a0) = false := bne_eq_false_iff_eq.mpr c18
            clear c18
            replace H := Option.bind_eq_some_iff.mp H
            obtain ⟨t193, A190, H⟩ := H
            replace H : (ramekinlaw2_GfField.j0 k a0 (t193 != 0)) = some r := H
            have A19 := Aside0.mk A190
            clear A190
            have H' := Aside0.mk H
            clear H
            go_wp2_with (first | ((with_reducible refine gate_callee (f := 13) rfl ?_); refine goesL_ (some 11) rfl rfl Try.func13 (by kernel_rfl) rfl #[.int .u8 a0, .int .u8 a1] rfl (by (try simp only [List.map_toArray, List.map_cons, List.map_nil]); first | done | rfl | (simp only [List.length_drop, List.length_take]; rfl)) ?_; (with_reducible refine (gf_Mul.calls a0 a1 t185 _ A8.out).mono ?_); rintro e w20 ⟨rfl, hb⟩; refine ⟨_, rfl, ?_⟩; have n0_ := Aside0.mk (below_step (by repeat (first | (with_reducible first | exact HB.out | apply below_alloc | apply pw_below_drewN | apply below_drew1) | exact HB.out)) hb); clear HB; have HB := n0_; clear n0_; (try clear hb); (try clear hb2); (try clear hk); (try clear hi)) | ((with_reducible refine gate_callee (f := 13) rfl ?_); refine goesL_ (some 13) rfl rfl Try.func13 (by kernel_rfl) rfl #[.int .u8 t185, .int .u8 a2] rfl (by (try simp only [List.map_toArray, List.map_cons, List.map_nil]); first | done | rfl | (simp only [List.length_drop, List.length_take]; rfl)) ?_; (with_reducible refine (gf_Mul.calls t185 a2 t186 _ A9.out).mono ?_); rintro e w21 ⟨rfl, hb⟩; refine ⟨_, rfl, ?_⟩; have n0_ := Aside0.mk (below_step (by repeat (first | (with_reducible first | exact HB.out | apply below_alloc | apply pw_below_drewN | apply below_drew1) | exact HB.out)) hb); clear HB; have HB := n0_; clear n0_; (try clear hb); (try clear hb2); (try clear hk); (try clear hi)) | ((with_reducible refine gate_callee (f := 13) rfl ?_); refine goesL_ (some 17) rfl rfl Try.func13 (by kernel_rfl) rfl #[.int .u8 a1, .int .u8 a2] rfl (by (try simp only [List.map_toArray, List.map_cons, List.map_nil]); first | done | rfl | (simp only [List.length_drop, List.length_take]; rfl)) ?_; (with_reducible refine (gf_Mul.calls a1 a2 t187 _ A10.out).mono ?_); rintro e w22 ⟨rfl, hb⟩; refine ⟨_, rfl, ?_⟩; have n0_ := Aside0.mk (below_step (by repeat (first | (with_reducible first | exact HB.out | apply below_alloc | apply pw_below_drewN | apply below_drew1) | exact HB.out)) hb); clear HB; have HB := n0_; clear n0_; (try clear hb); (try clear hb2); (try clear hk); (try clear hi)) | ((with_reducible refine gate_callee (f := 13) rfl ?_); refine goesL_ (some 18) rfl rfl Try.func13 (by kernel_rfl) rfl #[.int .u8 a0, .int .u8 t187] rfl (by (try simp only [List.map_toArray, List.map_cons, List.map_nil]); first | done | rfl | (simp only [List.length_drop, List.length_take]; rfl)) ?_; (with_reducible refine (gf_Mul.calls a0 t187 t188 _ A11.out).mono ?_); rintro e w23 ⟨rfl, hb⟩; refine ⟨_, rfl, ?_⟩; have n0_ := Aside0.mk (below_step (by repeat (first | (with_reducible first | exact HB.out | apply below_alloc | apply pw_below_drewN | apply below_drew1) | exact HB.out)) hb); clear HB; have HB := n0_; clear n0_; (try clear hb); (try clear hb2); (try clear hk); (try clear hi)) | (go_at_call 13; (with_reducible refine (gf_Mul.calls a0 (Go.bits .xor .u8 a1 a2) t189 _ A13.out).mono ?_); rintro e w24 ⟨rfl, hb⟩; have n0_ := Aside0.mk (below_step (by repeat (first | (with_reducible first | exact HB.out | apply below_alloc | apply pw_below_drewN | apply below_drew1) | exact HB.out)) hb); clear HB; have HB := n0_; clear n0_; (try clear hb); (try clear hb2); (try clear hk); (try clear hi)) | (go_at_call 13; (with_reducible refine (gf_Mul.calls a0 a1 t190 _ A14.out).mono ?_); rintro e w25 ⟨rfl, hb⟩; have n0_ := Aside0.mk (below_step (by repeat (first | (with_reducible first | exact HB.out | apply below_alloc | apply pw_below_drewN | apply below_drew1) | exact HB.out)) hb); clear HB; have HB := n0_; clear n0_; (try clear hb); (try clear hb2); (try clear hk); (try clear hi)) | (go_at_call 13; (with_reducible refine (gf_Mul.calls a0 a2 t191 _ A15.out).mono ?_); rintro e w26 ⟨rfl, hb⟩; have n0_ := Aside0.mk (below_step (by repeat (first | (with_reducible first | exact HB.out | apply below_alloc | apply pw_below_drewN | apply below_drew1) | exact HB.out)) hb); clear HB; have HB := n0_; clear n0_; (try clear hb); (try clear hb2); (try clear hk); (try clear hi)) | (go_at_call 13; (with_reducible refine (gf_Mul.calls a0 1 t192 _ A17.out).mono ?_); rintro e w27 ⟨rfl, hb⟩; have n0_ := Aside0.mk (below_step (by repeat (first | (with_reducible first | exact HB.out | apply below_alloc | apply pw_below_drewN | apply below_drew1) | exact HB.out)) hb); clear HB; have HB := n0_; clear n0_; (try clear hb); (try clear hb2); (try clear hk); (try clear hi)) | (go_at_call 13; (with_reducible refine (gf_Mul.calls a0 0 t193 _ A19.out).mono ?_); rintro e w28 ⟨rfl, hb⟩; have n0_ := Aside0.mk (below_step (by repeat (first | (with_reducible first | exact HB.out | apply below_alloc | apply pw_below_drewN | apply below_drew1) | exact HB.out)) hb); clear HB; have HB := n0_; clear n0_; (try clear hb); (try clear hb2); (try clear hk); (try clear hi)))
            go_meet
            case rel => exact ⟨_, ((t193 != 0)), (by first | rfl | (simp; done) | (simp [*]; done)), H', ⟨by first | omega | exact Nat.le_refl _⟩, ⟨by repeat (first | (with_reducible first | exact HB.out | apply below_alloc | apply pw_below_drewN | apply below_drew1) | exact HB.out)⟩⟩
          · rw [if_neg c18] at H
            have c18b0 : (t192 == a0) = false := beq_eq_false_iff_ne.mpr c18
            have c18b1 : (t192 != a0) = true := bne_iff_ne.mpr c18
            have H' := Aside0.mk H
            clear H
            go_wp2_with (first | ((with_reducible refine gate_callee (f := 13) rfl ?_); refine goesL_ (some 11) rfl rfl Try.func13 (by kernel_rfl) rfl #[.int .u8 a0, .int .u8 a1] rfl (by (try simp only [List.map_toArray, List.map_cons, List.map_nil]); first | done | rfl | (simp only [List.length_drop, List.length_take]; rfl)) ?_; (with_reducible refine (gf_Mul.calls a0 a1 t185 _ A8.out).mono ?_); rintro e w29 ⟨rfl, hb⟩; refine ⟨_, rfl, ?_⟩; have n0_ := Aside0.mk (below_step (by repeat (first | (with_reducible first | exact HB.out | apply below_alloc | apply pw_below_drewN | apply below_drew1) | exact HB.out)) hb); clear HB; have HB := n0_; clear n0_; (try clear hb); (try clear hb2); (try clear hk); (try clear hi)) | ((with_reducible refine gate_callee (f := 13) rfl ?_); refine goesL_ (some 13) rfl rfl Try.func13 (by kernel_rfl) rfl #[.int .u8 t185, .int .u8 a2] rfl (by (try simp only [List.map_toArray, List.map_cons, List.map_nil]); first | done | rfl | (simp only [List.length_drop, List.length_take]; rfl)) ?_; (with_reducible refine (gf_Mul.calls t185 a2 t186 _ A9.out).mono ?_); rintro e w30 ⟨rfl, hb⟩; refine ⟨_, rfl, ?_⟩; have n0_ := Aside0.mk (below_step (by repeat (first | (with_reducible first | exact HB.out | apply below_alloc | apply pw_below_drewN | apply below_drew1) | exact HB.out)) hb); clear HB; have HB := n0_; clear n0_; (try clear hb); (try clear hb2); (try clear hk); (try clear hi)) | ((with_reducible refine gate_callee (f := 13) rfl ?_); refine goesL_ (some 17) rfl rfl Try.func13 (by kernel_rfl) rfl #[.int .u8 a1, .int .u8 a2] rfl (by (try simp only [List.map_toArray, List.map_cons, List.map_nil]); first | done | rfl | (simp only [List.length_drop, List.length_take]; rfl)) ?_; (with_reducible refine (gf_Mul.calls a1 a2 t187 _ A10.out).mono ?_); rintro e w31 ⟨rfl, hb⟩; refine ⟨_, rfl, ?_⟩; have n0_ := Aside0.mk (below_step (by repeat (first | (with_reducible first | exact HB.out | apply below_alloc | apply pw_below_drewN | apply below_drew1) | exact HB.out)) hb); clear HB; have HB := n0_; clear n0_; (try clear hb); (try clear hb2); (try clear hk); (try clear hi)) | ((with_reducible refine gate_callee (f := 13) rfl ?_); refine goesL_ (some 18) rfl rfl Try.func13 (by kernel_rfl) rfl #[.int .u8 a0, .int .u8 t187] rfl (by (try simp only [List.map_toArray, List.map_cons, List.map_nil]); first | done | rfl | (simp only [List.length_drop, List.length_take]; rfl)) ?_; (with_reducible refine (gf_Mul.calls a0 t187 t188 _ A11.out).mono ?_); rintro e w32 ⟨rfl, hb⟩; refine ⟨_, rfl, ?_⟩; have n0_ := Aside0.mk (below_step (by repeat (first | (with_reducible first | exact HB.out | apply below_alloc | apply pw_below_drewN | apply below_drew1) | exact HB.out)) hb); clear HB; have HB := n0_; clear n0_; (try clear hb); (try clear hb2); (try clear hk); (try clear hi)) | (go_at_call 13; (with_reducible refine (gf_Mul.calls a0 (Go.bits .xor .u8 a1 a2) t189 _ A13.out).mono ?_); rintro e w33 ⟨rfl, hb⟩; have n0_ := Aside0.mk (below_step (by repeat (first | (with_reducible first | exact HB.out | apply below_alloc | apply pw_below_drewN | apply below_drew1) | exact HB.out)) hb); clear HB; have HB := n0_; clear n0_; (try clear hb); (try clear hb2); (try clear hk); (try clear hi)) | (go_at_call 13; (with_reducible refine (gf_Mul.calls a0 a1 t190 _ A14.out).mono ?_); rintro e w34 ⟨rfl, hb⟩; have n0_ := Aside0.mk (below_step (by repeat (first | (with_reducible first | exact HB.out | apply below_alloc | apply pw_below_drewN | apply below_drew1) | exact HB.out)) hb); clear HB; have HB := n0_; clear n0_; (try clear hb); (try clear hb2); (try clear hk); (try clear hi)) | (go_at_call 13; (with_reducible refine (gf_Mul.calls a0 a2 t191 _ A15.out).mono ?_); rintro e w35 ⟨rfl, hb⟩; have n0_ := Aside0.mk (below_step (by repeat (first | (with_reducible first | exact HB.out | apply below_alloc | apply pw_below_drewN | apply below_drew1) | exact HB.out)) hb); clear HB; have HB := n0_; clear n0_; (try clear hb); (try clear hb2); (try clear hk); (try clear hi)) | (go_at_call 13; (with_reducible refine (gf_Mul.calls a0 1 t192 _ A17.out).mono ?_); rintro e w36 ⟨rfl, hb⟩; have n0_ := Aside0.mk (below_step (by repeat (first | (with_reducible first | exact HB.out | apply below_alloc | apply pw_below_drewN | apply below_drew1) | exact HB.out)) hb); clear HB; have HB := n0_; clear n0_; (try clear hb); (try clear hb2); (try clear hk); (try clear hi)))
            go_meet
            case rel => exact ⟨_, (true), (by first | rfl | (simp; done) | (simp [*]; done)), H', ⟨by first | omega | exact Nat.le_refl _⟩, ⟨by repeat (first | (with_reducible first | exact HB.out | apply below_alloc | apply pw_below_drewN | apply below_drew1) | exact HB.out)⟩⟩
        · rw [if_neg c16] at H
          have c16b0 : (t189 == (Go.bits .xor .u8 t190 t191)) = false := beq_eq_false_iff_ne.mpr c16
          have c16b1 : (t189 != (Go.bits .xor .u8 t190 t191)) = true := bne_iff_ne.mpr c16
          have H' := Aside0.mk H
          clear H
          go_wp2_with (first | ((with_reducible refine gate_callee (f := 13) rfl ?_); refine goesL_ (some 11) rfl rfl Try.func13 (by kernel_rfl) rfl #[.int .u8 a0, .int .u8 a1] rfl (by (try simp only [List.map_toArray, List.map_cons, List.map_nil]); first | done | rfl | (simp only [List.length_drop, List.length_take]; rfl)) ?_; (with_reducible refine (gf_Mul.calls a0 a1 t185 _ A8.out).mono ?_); rintro e w37 ⟨rfl, hb⟩; refine ⟨_, rfl, ?_⟩; have n0_ := Aside0.mk (below_step (by repeat (first | (with_reducible first | exact HB.out | apply below_alloc | apply pw_below_drewN | apply below_drew1) | exact HB.out)) hb); clear HB; have HB := n0_; clear n0_; (try clear hb); (try clear hb2); (try clear hk); (try clear hi)) | ((with_reducible refine gate_callee (f := 13) rfl ?_); refine goesL_ (some 13) rfl rfl Try.func13 (by kernel_rfl) rfl #[.int .u8 t185, .int .u8 a2] rfl (by (try simp only [List.map_toArray, List.map_cons, List.map_nil]); first | done | rfl | (simp only [List.length_drop, List.length_take]; rfl)) ?_; (with_reducible refine (gf_Mul.calls t185 a2 t186 _ A9.out).mono ?_); rintro e w38 ⟨rfl, hb⟩; refine ⟨_, rfl, ?_⟩; have n0_ := Aside0.mk (below_step (by repeat (first | (with_reducible first | exact HB.out | apply below_alloc | apply pw_below_drewN | apply below_drew1) | exact HB.out)) hb); clear HB; have HB := n0_; clear n0_; (try clear hb); (try clear hb2); (try clear hk); (try clear hi)) | ((with_reducible refine gate_callee (f := 13) rfl ?_); refine goesL_ (some 17) rfl rfl Try.func13 (by kernel_rfl) rfl #[.int .u8 a1, .int .u8 a2] rfl (by (try simp only [List.map_toArray, List.map_cons, List.map_nil]); first | done | rfl | (simp only [List.length_drop, List.length_take]; rfl)) ?_; (with_reducible refine (gf_Mul.calls a1 a2 t187 _ A10.out).mono ?_); rintro e w39 ⟨rfl, hb⟩; refine ⟨_, rfl, ?_⟩; have n0_ := Aside0.mk (below_step (by repeat (first | (with_reducible first | exact HB.out | apply below_alloc | apply pw_below_drewN | apply below_drew1) | exact HB.out)) hb); clear HB; have HB := n0_; clear n0_; (try clear hb); (try clear hb2); (try clear hk); (try clear hi)) | ((with_reducible refine gate_callee (f := 13) rfl ?_); refine goesL_ (some 18) rfl rfl Try.func13 (by kernel_rfl) rfl #[.int .u8 a0, .int .u8 t187] rfl (by (try simp only [List.map_toArray, List.map_cons, List.map_nil]); first | done | rfl | (simp only [List.length_drop, List.length_take]; rfl)) ?_; (with_reducible refine (gf_Mul.calls a0 t187 t188 _ A11.out).mono ?_); rintro e w40 ⟨rfl, hb⟩; refine ⟨_, rfl, ?_⟩; have n0_ := Aside0.mk (below_step (by repeat (first | (with_reducible first | exact HB.out | apply below_alloc | apply pw_below_drewN | apply below_drew1) | exact HB.out)) hb); clear HB; have HB := n0_; clear n0_; (try clear hb); (try clear hb2); (try clear hk); (try clear hi)) | (go_at_call 13; (with_reducible refine (gf_Mul.calls a0 (Go.bits .xor .u8 a1 a2) t189 _ A13.out).mono ?_); rintro e w41 ⟨rfl, hb⟩; have n0_ := Aside0.mk (below_step (by repeat (first | (with_reducible first | exact HB.out | apply below_alloc | apply pw_below_drewN | apply below_drew1) | exact HB.out)) hb); clear HB; have HB := n0_; clear n0_; (try clear hb); (try clear hb2); (try clear hk); (try clear hi)) | (go_at_call 13; (with_reducible refine (gf_Mul.calls a0 a1 t190 _ A14.out).mono ?_); rintro e w42 ⟨rfl, hb⟩; have n0_ := Aside0.mk (below_step (by repeat (first | (with_reducible first | exact HB.out | apply below_alloc | apply pw_below_drewN | apply below_drew1) | exact HB.out)) hb); clear HB; have HB := n0_; clear n0_; (try clear hb); (try clear hb2); (try clear hk); (try clear hi)) | (go_at_call 13; (with_reducible refine (gf_Mul.calls a0 a2 t191 _ A15.out).mono ?_); rintro e w43 ⟨rfl, hb⟩; have n0_ := Aside0.mk (below_step (by repeat (first | (with_reducible first | exact HB.out | apply below_alloc | apply pw_below_drewN | apply below_drew1) | exact HB.out)) hb); clear HB; have HB := n0_; clear n0_; (try clear hb); (try clear hb2); (try clear hk); (try clear hi)))
          go_meet
          case rel => exact ⟨_, (true), (by first | rfl | (simp; done) | (simp [*]; done)), H', ⟨by first | omega | exact Nat.le_refl _⟩, ⟨by repeat (first | (with_reducible first | exact HB.out | apply below_alloc | apply pw_below_drewN | apply below_drew1) | exact HB.out)⟩⟩
      · rw [if_neg c12] at H
        have c12b0 : (t186 == t188) = false := beq_eq_false_iff_ne.mpr c12
        have c12b1 : (t186 != t188) = true := bne_iff_ne.mpr c12
        (first | rw [c12b0] | (simp only [i64_w, i32_w]; rw [c12b0]) | skip)
        have H' := Aside0.mk H
        clear H
        go_wp2_with (first | ((with_reducible refine gate_callee (f := 13) rfl ?_); refine goesL_ (some 11) rfl rfl Try.func13 (by kernel_rfl) rfl #[.int .u8 a0, .int .u8 a1] rfl (by (try simp only [List.map_toArray, List.map_cons, List.map_nil]); first | done | rfl | (simp only [List.length_drop, List.length_take]; rfl)) ?_; (with_reducible refine (gf_Mul.calls a0 a1 t185 _ A8.out).mono ?_); rintro e w44 ⟨rfl, hb⟩; refine ⟨_, rfl, ?_⟩; have n0_ := Aside0.mk (below_step (by repeat (first | (with_reducible first | exact HB.out | apply below_alloc | apply pw_below_drewN | apply below_drew1) | exact HB.out)) hb); clear HB; have HB := n0_; clear n0_; (try clear hb); (try clear hb2); (try clear hk); (try clear hi)) | ((with_reducible refine gate_callee (f := 13) rfl ?_); refine goesL_ (some 13) rfl rfl Try.func13 (by kernel_rfl) rfl #[.int .u8 t185, .int .u8 a2] rfl (by (try simp only [List.map_toArray, List.map_cons, List.map_nil]); first | done | rfl | (simp only [List.length_drop, List.length_take]; rfl)) ?_; (with_reducible refine (gf_Mul.calls t185 a2 t186 _ A9.out).mono ?_); rintro e w45 ⟨rfl, hb⟩; refine ⟨_, rfl, ?_⟩; have n0_ := Aside0.mk (below_step (by repeat (first | (with_reducible first | exact HB.out | apply below_alloc | apply pw_below_drewN | apply below_drew1) | exact HB.out)) hb); clear HB; have HB := n0_; clear n0_; (try clear hb); (try clear hb2); (try clear hk); (try clear hi)) | ((with_reducible refine gate_callee (f := 13) rfl ?_); refine goesL_ (some 17) rfl rfl Try.func13 (by kernel_rfl) rfl #[.int .u8 a1, .int .u8 a2] rfl (by (try simp only [List.map_toArray, List.map_cons, List.map_nil]); first | done | rfl | (simp only [List.length_drop, List.length_take]; rfl)) ?_; (with_reducible refine (gf_Mul.calls a1 a2 t187 _ A10.out).mono ?_); rintro e w46 ⟨rfl, hb⟩; refine ⟨_, rfl, ?_⟩; have n0_ := Aside0.mk (below_step (by repeat (first | (with_reducible first | exact HB.out | apply below_alloc | apply pw_below_drewN | apply below_drew1) | exact HB.out)) hb); clear HB; have HB := n0_; clear n0_; (try clear hb); (try clear hb2); (try clear hk); (try clear hi)) | ((with_reducible refine gate_callee (f := 13) rfl ?_); refine goesL_ (some 18) rfl rfl Try.func13 (by kernel_rfl) rfl #[.int .u8 a0, .int .u8 t187] rfl (by (try simp only [List.map_toArray, List.map_cons, List.map_nil]); first | done | rfl | (simp only [List.length_drop, List.length_take]; rfl)) ?_; (with_reducible refine (gf_Mul.calls a0 t187 t188 _ A11.out).mono ?_); rintro e w47 ⟨rfl, hb⟩; refine ⟨_, rfl, ?_⟩; have n0_ := Aside0.mk (below_step (by repeat (first | (with_reducible first | exact HB.out | apply below_alloc | apply pw_below_drewN | apply below_drew1) | exact HB.out)) hb); clear HB; have HB := n0_; clear n0_; (try clear hb); (try clear hb2); (try clear hk); (try clear hi)))
        go_meet
        case rel => exact ⟨_, (true), (by first | rfl | (simp; done) | (simp [*]; done)), H', ⟨by first | omega | exact Nat.le_refl _⟩, ⟨by repeat (first | (with_reducible first | exact HB.out | apply below_alloc | apply pw_below_drewN | apply below_drew1) | exact HB.out)⟩⟩
    case rest =>
      clear HC6
      try clear c1
      try clear p2
      try clear c5
      try clear c11
      try clear c12
      try clear c12b0
      try clear c12b1
      try clear c13
      try clear c16
      try clear c16b0
      try clear c16b1
      try clear c18
      try clear c18b0
      try clear c18b1
      obtain ⟨kq, x45_5, rfl, HA, HJ5, HB⟩ := hcut
      cases kq with
      | zero => exact absurd HA.out (by simp [ramekinlaw2_GfField.j0])
      | succ kj5 =>
        have H := HA.out
        clear HA
        simp only [ramekinlaw2_GfField.j0] at H
        by_cases c48 : x45_5 = true
        · subst c48
          have H1 : (some false) = some r := by rw [if_pos rfl] at H; exact H
          clear H
          have H := H1
          clear H1
          obtain rfl := Option.some.inj H
          go_wp2
          go_ret
          exact ⟨by first | rfl | (simp [errW_none, errW_some] <;> rfl) | (simp [*, errW_none, errW_some] <;> rfl), by repeat (first | (with_reducible first | exact HB.out | apply below_alloc | apply pw_below_drewN | apply below_drew1) | exact HB.out)⟩
        · replace c48 := Bool.eq_false_iff.mpr c48
          subst c48
          have H1 : (if a0 = 0 then ((gf_Inv.f a0).bind fun t194 => (if t194 = 0 then ((gf_Log.f a0).bind fun t195 => (some (t195 == (-1)))) else (some false))) else ((gf_Inv.f a0).bind fun t196 => ((gf_Mul.f a0 t196).bind fun t197 => (if t197 = 1 then ((gf_Log.f a0).bind fun t198 => ((gf_Exp.f t198).bind fun t199 => (some (t199 == a0)))) else (some false))))) = some r := by rw [if_neg (show ¬ (false = true) by decide)] at H; exact H
          clear H
          have H := H1
          clear H1
          by_cases c49 : a0 = 0
          · rw [if_pos c49] at H
            have c49b0 : (a0 == 0) = true := beq_iff_eq.mpr c49
            have c49b1 : (a0 != 0) = false := bne_eq_false_iff_eq.mpr c49
            clear c49
            replace H := Option.bind_eq_some_iff.mp H
            obtain ⟨t194, A500, H⟩ := H
            replace H : (if t194 = 0 then ((gf_Log.f a0).bind fun t195 => (some (t195 == (-1)))) else (some false)) = some r := H
            have A50 := Aside0.mk A500
            clear A500
            by_cases c51 : t194 = 0
            · rw [if_pos c51] at H
              have c51b0 : (t194 == 0) = true := beq_iff_eq.mpr c51
              have c51b1 : (t194 != 0) = false := bne_eq_false_iff_eq.mpr c51
              clear c51
              replace H := Option.bind_eq_some_iff.mp H
              obtain ⟨t195, A520, H⟩ := H
              replace H : (some (t195 == (-1))) = some r := H
              have A52 := Aside0.mk A520
              clear A520
              obtain rfl := Option.some.inj H
              go_wp2_with (first | ((with_reducible refine gate_callee (f := 18) rfl ?_); refine goesL_ (some 49) rfl rfl Try.func18 (by kernel_rfl) rfl #[.int .u8 a0] rfl (by (try simp only [List.map_toArray, List.map_cons, List.map_nil]); first | done | rfl | (simp only [List.length_drop, List.length_take]; rfl)) ?_; (with_reducible refine (gf_Inv.calls a0 t194 _ A50.out).mono ?_); rintro e w53 ⟨rfl, hb⟩; refine ⟨_, rfl, ?_⟩; have n0_ := Aside0.mk (below_step (by repeat (first | (with_reducible first | exact HB.out | apply below_alloc | apply pw_below_drewN | apply below_drew1) | exact HB.out)) hb); clear HB; have HB := n0_; clear n0_; (try clear hb); (try clear hb2); (try clear hk); (try clear hi)) | (go_at_call 19; (with_reducible refine (gf_Log.calls a0 t195 _ A52.out).mono ?_); rintro e w' ⟨rfl, ⟨nd, rfl⟩⟩))
              go_ret
              exact ⟨by first | rfl | (simp [errW_none, errW_some] <;> rfl) | (simp [*, errW_none, errW_some] <;> rfl), by repeat (first | (with_reducible first | exact HB.out | apply below_alloc | apply pw_below_drewN | apply below_drew1) | exact HB.out)⟩
            · rw [if_neg c51] at H
              have c51b0 : (t194 == 0) = false := beq_eq_false_iff_ne.mpr c51
              have c51b1 : (t194 != 0) = true := bne_iff_ne.mpr c51
              obtain rfl := Option.some.inj H
              go_wp2_with (first | ((with_reducible refine gate_callee (f := 18) rfl ?_); refine goesL_ (some 49) rfl rfl Try.func18 (by kernel_rfl) rfl #[.int .u8 a0] rfl (by (try simp only [List.map_toArray, List.map_cons, List.map_nil]); first | done | rfl | (simp only [List.length_drop, List.length_take]; rfl)) ?_; (with_reducible refine (gf_Inv.calls a0 t194 _ A50.out).mono ?_); rintro e w54 ⟨rfl, hb⟩; refine ⟨_, rfl, ?_⟩; have n0_ := Aside0.mk (below_step (by repeat (first | (with_reducible first | exact HB.out | apply below_alloc | apply pw_below_drewN | apply below_drew1) | exact HB.out)) hb); clear HB; have HB := n0_; clear n0_; (try clear hb); (try clear hb2); (try clear hk); (try clear hi)))
              go_ret
              exact ⟨by first | rfl | (simp [errW_none, errW_some] <;> rfl) | (simp [*, errW_none, errW_some] <;> rfl), by repeat (first | (with_reducible first | exact HB.out | apply below_alloc | apply pw_below_drewN | apply below_drew1) | exact HB.out)⟩
          · rw [if_neg c49] at H
            have c49b0 : (a0 == 0) = false := beq_eq_false_iff_ne.mpr c49
            have c49b1 : (a0 != 0) = true := bne_iff_ne.mpr c49
            replace H := Option.bind_eq_some_iff.mp H
            obtain ⟨t196, A550, H⟩ := H
            replace H : ((gf_Mul.f a0 t196).bind fun t197 => (if t197 = 1 then ((gf_Log.f a0).bind fun t198 => ((gf_Exp.f t198).bind fun t199 => (some (t199 == a0)))) else (some false))) = some r := H
            have A55 := Aside0.mk A550
            clear A550
            replace H := Option.bind_eq_some_iff.mp H
            obtain ⟨t197, A560, H⟩ := H
            replace H : (if t197 = 1 then ((gf_Log.f a0).bind fun t198 => ((gf_Exp.f t198).bind fun t199 => (some (t199 == a0)))) else (some false)) = some r := H
            have A56 := Aside0.mk A560
            clear A560
            by_cases c57 : t197 = 1
            · rw [if_pos c57] at H
              have c57b0 : (t197 == 1) = true := beq_iff_eq.mpr c57
              have c57b1 : (t197 != 1) = false := bne_eq_false_iff_eq.mpr c57
              clear c57
              replace H := Option.bind_eq_some_iff.mp H
              obtain ⟨t198, A580, H⟩ := H
              replace H : ((gf_Exp.f t198).bind fun t199 => (some (t199 == a0))) = some r := H
              have A58 := Aside0.mk A580
              clear A580
              replace H := Option.bind_eq_some_iff.mp H
              obtain ⟨t199, A590, H⟩ := H
              replace H : (some (t199 == a0)) = some r := H
              have A59 := Aside0.mk A590
              clear A590
              obtain rfl := Option.some.inj H
              go_wp2_with (first | ((with_reducible refine gate_callee (f := 18) rfl ?_); refine goesL_ (some 58) rfl rfl Try.func18 (by kernel_rfl) rfl #[.int .u8 a0] rfl (by (try simp only [List.map_toArray, List.map_cons, List.map_nil]); first | done | rfl | (simp only [List.length_drop, List.length_take]; rfl)) ?_; (with_reducible refine (gf_Inv.calls a0 t196 _ A55.out).mono ?_); rintro e w60 ⟨rfl, hb⟩; refine ⟨_, rfl, ?_⟩; have n0_ := Aside0.mk (below_step (by repeat (first | (with_reducible first | exact HB.out | apply below_alloc | apply pw_below_drewN | apply below_drew1) | exact HB.out)) hb); clear HB; have HB := n0_; clear n0_; (try clear hb); (try clear hb2); (try clear hk); (try clear hi)) | ((with_reducible refine gate_callee (f := 13) rfl ?_); refine goesL_ (some 59) rfl rfl Try.func13 (by kernel_rfl) rfl #[.int .u8 a0, .int .u8 t196] rfl (by (try simp only [List.map_toArray, List.map_cons, List.map_nil]); first | done | rfl | (simp only [List.length_drop, List.length_take]; rfl)) ?_; (with_reducible refine (gf_Mul.calls a0 t196 t197 _ A56.out).mono ?_); rintro e w61 ⟨rfl, hb⟩; refine ⟨_, rfl, ?_⟩; have n0_ := Aside0.mk (below_step (by repeat (first | (with_reducible first | exact HB.out | apply below_alloc | apply pw_below_drewN | apply below_drew1) | exact HB.out)) hb); clear HB; have HB := n0_; clear n0_; (try clear hb); (try clear hb2); (try clear hk); (try clear hi)) | (go_at_call 19; (with_reducible refine (gf_Log.calls a0 t198 _ A58.out).mono ?_); rintro e w' ⟨rfl, ⟨nd, rfl⟩⟩) | (go_at_call 17; (with_reducible refine (gf_Exp.calls t198 t199 _ A59.out).mono ?_); rintro e w62 ⟨rfl, hb⟩; have n0_ := Aside0.mk (below_step (by repeat (first | (with_reducible first | exact HB.out | apply below_alloc | apply pw_below_drewN | apply below_drew1) | exact HB.out)) hb); clear HB; have HB := n0_; clear n0_; (try clear hb); (try clear hb2); (try clear hk); (try clear hi)))
              go_ret
              exact ⟨by first | rfl | (simp [errW_none, errW_some] <;> rfl) | (simp [*, errW_none, errW_some] <;> rfl), by repeat (first | (with_reducible first | exact HB.out | apply below_alloc | apply pw_below_drewN | apply below_drew1) | exact HB.out)⟩
            · rw [if_neg c57] at H
              have c57b0 : (t197 == 1) = false := beq_eq_false_iff_ne.mpr c57
              have c57b1 : (t197 != 1) = true := bne_iff_ne.mpr c57
              obtain rfl := Option.some.inj H
              go_wp2_with (first | ((with_reducible refine gate_callee (f := 18) rfl ?_); refine goesL_ (some 58) rfl rfl Try.func18 (by kernel_rfl) rfl #[.int .u8 a0] rfl (by (try simp only [List.map_toArray, List.map_cons, List.map_nil]); first | done | rfl | (simp only [List.length_drop, List.length_take]; rfl)) ?_; (with_reducible refine (gf_Inv.calls a0 t196 _ A55.out).mono ?_); rintro e w63 ⟨rfl, hb⟩; refine ⟨_, rfl, ?_⟩; have n0_ := Aside0.mk (below_step (by repeat (first | (with_reducible first | exact HB.out | apply below_alloc | apply pw_below_drewN | apply below_drew1) | exact HB.out)) hb); clear HB; have HB := n0_; clear n0_; (try clear hb); (try clear hb2); (try clear hk); (try clear hi)) | ((with_reducible refine gate_callee (f := 13) rfl ?_); refine goesL_ (some 59) rfl rfl Try.func13 (by kernel_rfl) rfl #[.int .u8 a0, .int .u8 t196] rfl (by (try simp only [List.map_toArray, List.map_cons, List.map_nil]); first | done | rfl | (simp only [List.length_drop, List.length_take]; rfl)) ?_; (with_reducible refine (gf_Mul.calls a0 t196 t197 _ A56.out).mono ?_); rintro e w64 ⟨rfl, hb⟩; refine ⟨_, rfl, ?_⟩; have n0_ := Aside0.mk (below_step (by repeat (first | (with_reducible first | exact HB.out | apply below_alloc | apply pw_below_drewN | apply below_drew1) | exact HB.out)) hb); clear HB; have HB := n0_; clear n0_; (try clear hb); (try clear hb2); (try clear hk); (try clear hi)))
              go_ret
              exact ⟨by first | rfl | (simp [errW_none, errW_some] <;> rfl) | (simp [*, errW_none, errW_some] <;> rfl), by repeat (first | (with_reducible first | exact HB.out | apply below_alloc | apply pw_below_drewN | apply below_drew1) | exact HB.out)⟩
  · replace c5 := Bool.eq_false_iff.mpr c5
    subst c5
    have H1 : (some false) = some r := by rw [if_neg (show ¬ (false = true) by decide)] at H; exact H
    clear H
    have H := H1
    clear H1
    obtain rfl := Option.some.inj H
    go_enter Try.func11, Try.ntmps11
    go_wp2_with (first | ((with_reducible refine gate_callee (f := 12) rfl ?_); refine goesL_ (some 7) rfl rfl Try.func12 (by kernel_rfl) rfl #[] rfl (by (try simp only [List.map_toArray, List.map_cons, List.map_nil]); first | done | rfl | (simp only [List.length_drop, List.length_take]; rfl)) ?_; (with_reducible refine (ramekinlaw2_known.calls  false _ A4.out).mono ?_); rintro e w65 ⟨rfl, hb⟩; refine ⟨_, rfl, ?_⟩; have n0_ := Aside0.mk (below_step (by repeat (first | (with_reducible first | exact HB.out | apply below_alloc | apply pw_below_drewN | apply below_drew1) | exact HB.out)) hb); clear HB; have HB := n0_; clear n0_; (try clear hb); (try clear hb2); (try clear hk); (try clear hi)))
    go_ret
    exact ⟨by first | rfl | (simp [errW_none, errW_some] <;> rfl) | (simp [*, errW_none, errW_some] <;> rfl), by repeat (first | (with_reducible first | exact HB.out | apply below_alloc | apply pw_below_drewN | apply below_drew1) | exact HB.out)⟩

/-- THE ONE PURE STATEMENT of ramekinlaw2_GfField: yours. -/
def ramekinlaw2_GfField.Pure : Prop := ∀ (a0 : Int) (a1 : Int) (a2 : Int), (Lit.int .u8 a0).wf = true → (Lit.int .u8 a1).wf = true → (Lit.int .u8 a2).wf = true → ∃ k, ramekinlaw2_GfField.f k a0 a1 a2 = some true
theorem ramekinlaw2_GfField.walk (P : ramekinlaw2_GfField.Pure) (a0 : Int) (a1 : Int) (a2 : Int) (w : World) (w0 : (Lit.int .u8 a0).wf = true) (w1 : (Lit.int .u8 a1).wf = true) (w2 : (Lit.int .u8 a2).wf = true) :
    Calls Try.prog 11 #[.int .u8 a0, .int .u8 a1, .int .u8 a2] w fun e w' => e = .returned (.bool true) ∧ Below w.heap.size w w' := by
  obtain ⟨k, h⟩ := P a0 a1 a2 w0 w1 w2
  refine (ramekinlaw2_GfField.calls k a0 a1 a2 true w h).mono ?_
  rintro e w' ⟨rfl, hd⟩
  exact ⟨rfl, hd⟩

end Go.Proofs.Ytlbaacellnlpfaa.QA
