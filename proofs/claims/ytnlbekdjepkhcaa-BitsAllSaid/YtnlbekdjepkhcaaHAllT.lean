import Derived.Test.YtnlbekdjepkhcaaHAll
set_option linter.unusedSimpArgs false
set_option linter.unusedVariables false
namespace Go.Proofs.YtnlbekdjepkhcaaBM
open Go.RowKit Go.Proofs.YtnlbekdjepkhcaaW.PrintWords Go.Proofs.YtnlbekdjepkhcaaW.PrintLast Go.Proofs.YtnlbekdjepkhcaaW.PrintMore Go.Proofs.YtnlbekdjepkhcaaG Ram
theorem all_early0 (A0 : Option Addr) (c0 : Nat) (l0 : List Int) (A1 : Option Addr) (c1 : Nat) (l1 : List Int) (A2 : Option Addr) (c2 : Nat) (l2 : List Int) (A3 : Option Addr) (c3 : Nat) (l3 : List Int) (w : World)  (h : 60 < l0.length) :
    Calls Try.prog 10 #[.slice A0 l0.length c0, .slice A1 l1.length c1, .slice A2 l2.length c2, .slice A3 l3.length c3] w fun e w' => e = .returned (.bool true) ∧ Below w.heap.size w w' := by
  have d0 : decide ((60 : Int) < (l0.length : Int)) = true := decide_eq_true (by omega)
  clear h 
  go_enter Try.func10, Try.ntmps10
  go_wp2_with (first | ((with_reducible refine gate_callee (f := 18) rfl ?_); refine goesL_ (some 13) rfl rfl Try.func18 (by kernel_rfl) rfl #[] rfl (by (try simp only [List.map_toArray, List.map_cons, List.map_nil]); first | done | rfl) ?_; (refine (known_g _).mono ?_); rintro e w1 ⟨u_, rfl, hu_, hb⟩; obtain rfl : u_ = .bool true := hu_; refine ⟨_, rfl, ?_⟩))
  go_ret
  exact ⟨rfl, hb⟩
theorem all_early1 (A0 : Option Addr) (c0 : Nat) (l0 : List Int) (A1 : Option Addr) (c1 : Nat) (l1 : List Int) (A2 : Option Addr) (c2 : Nat) (l2 : List Int) (A3 : Option Addr) (c3 : Nat) (l3 : List Int) (w : World) (m0 : l0.length ≤ 60) (h : 60 < l1.length) :
    Calls Try.prog 10 #[.slice A0 l0.length c0, .slice A1 l1.length c1, .slice A2 l2.length c2, .slice A3 l3.length c3] w fun e w' => e = .returned (.bool true) ∧ Below w.heap.size w w' := by
  have d0 : decide ((60 : Int) < (l0.length : Int)) = false := decide_eq_false (by omega)
  have d1 : decide ((60 : Int) < (l1.length : Int)) = true := decide_eq_true (by omega)
  clear h m0
  go_enter Try.func10, Try.ntmps10
  go_wp2_with (first | ((with_reducible refine gate_callee (f := 18) rfl ?_); refine goesL_ (some 13) rfl rfl Try.func18 (by kernel_rfl) rfl #[] rfl (by (try simp only [List.map_toArray, List.map_cons, List.map_nil]); first | done | rfl) ?_; (refine (known_g _).mono ?_); rintro e w1 ⟨u_, rfl, hu_, hb⟩; obtain rfl : u_ = .bool true := hu_; refine ⟨_, rfl, ?_⟩))
  go_ret
  exact ⟨rfl, hb⟩
theorem all_early2 (A0 : Option Addr) (c0 : Nat) (l0 : List Int) (A1 : Option Addr) (c1 : Nat) (l1 : List Int) (A2 : Option Addr) (c2 : Nat) (l2 : List Int) (A3 : Option Addr) (c3 : Nat) (l3 : List Int) (w : World) (m0 : l0.length ≤ 60) (m1 : l1.length ≤ 60) (h : 60 < l2.length) :
    Calls Try.prog 10 #[.slice A0 l0.length c0, .slice A1 l1.length c1, .slice A2 l2.length c2, .slice A3 l3.length c3] w fun e w' => e = .returned (.bool true) ∧ Below w.heap.size w w' := by
  have d0 : decide ((60 : Int) < (l0.length : Int)) = false := decide_eq_false (by omega)
  have d1 : decide ((60 : Int) < (l1.length : Int)) = false := decide_eq_false (by omega)
  have d2 : decide ((60 : Int) < (l2.length : Int)) = true := decide_eq_true (by omega)
  clear h m0 m1
  go_enter Try.func10, Try.ntmps10
  go_wp2_with (first | ((with_reducible refine gate_callee (f := 18) rfl ?_); refine goesL_ (some 13) rfl rfl Try.func18 (by kernel_rfl) rfl #[] rfl (by (try simp only [List.map_toArray, List.map_cons, List.map_nil]); first | done | rfl) ?_; (refine (known_g _).mono ?_); rintro e w1 ⟨u_, rfl, hu_, hb⟩; obtain rfl : u_ = .bool true := hu_; refine ⟨_, rfl, ?_⟩))
  go_ret
  exact ⟨rfl, hb⟩
theorem all_early3 (A0 : Option Addr) (c0 : Nat) (l0 : List Int) (A1 : Option Addr) (c1 : Nat) (l1 : List Int) (A2 : Option Addr) (c2 : Nat) (l2 : List Int) (A3 : Option Addr) (c3 : Nat) (l3 : List Int) (w : World) (m0 : l0.length ≤ 60) (m1 : l1.length ≤ 60) (m2 : l2.length ≤ 60) (h : 60 < l3.length) :
    Calls Try.prog 10 #[.slice A0 l0.length c0, .slice A1 l1.length c1, .slice A2 l2.length c2, .slice A3 l3.length c3] w fun e w' => e = .returned (.bool true) ∧ Below w.heap.size w w' := by
  have d0 : decide ((60 : Int) < (l0.length : Int)) = false := decide_eq_false (by omega)
  have d1 : decide ((60 : Int) < (l1.length : Int)) = false := decide_eq_false (by omega)
  have d2 : decide ((60 : Int) < (l2.length : Int)) = false := decide_eq_false (by omega)
  have d3 : decide ((60 : Int) < (l3.length : Int)) = true := decide_eq_true (by omega)
  clear h m0 m1 m2
  go_enter Try.func10, Try.ntmps10
  go_wp2_with (first | ((with_reducible refine gate_callee (f := 18) rfl ?_); refine goesL_ (some 13) rfl rfl Try.func18 (by kernel_rfl) rfl #[] rfl (by (try simp only [List.map_toArray, List.map_cons, List.map_nil]); first | done | rfl) ?_; (refine (known_g _).mono ?_); rintro e w1 ⟨u_, rfl, hu_, hb⟩; obtain rfl : u_ = .bool true := hu_; refine ⟨_, rfl, ?_⟩))
  go_ret
  exact ⟨rfl, hb⟩
theorem all_total (A0 : Option Addr) (c0 : Nat) (l0 : List Int) (A1 : Option Addr) (c1 : Nat) (l1 : List Int) (A2 : Option Addr) (c2 : Nat) (l2 : List Int) (A3 : Option Addr) (c3 : Nat) (l3 : List Int) (w : World) (hr0 : Kd.C (Kd.int .u8) w A0 l0.length l0) (hc0 : l0.length ≤ c0) (hr1 : Kd.C (Kd.int .u8) w A1 l1.length l1) (hc1 : l1.length ≤ c1) (hr2 : Kd.C (Kd.int .u8) w A2 l2.length l2) (hc2 : l2.length ≤ c2) (hr3 : Kd.C (Kd.int .i64) w A3 l3.length l3) (hc3 : l3.length ≤ c3)
    (b0 : bytesB l0 = true) (b1 : bytesB l1 = true) (b2 : bytesB l2 = true) (b3 : ∀ x ∈ l3, -9223372036854775808 ≤ x ∧ x ≤ 9223372036854775807) :
    Calls Try.prog 10 #[.slice A0 l0.length c0, .slice A1 l1.length c1, .slice A2 l2.length c2, .slice A3 l3.length c3] w fun e w' => e = .returned (.bool true) ∧ Below w.heap.size w w' := by
  by_cases m0 : l0.length ≤ 60
  · by_cases m1 : l1.length ≤ 60
    · by_cases m2 : l2.length ≤ 60
      · by_cases m3 : l3.length ≤ 60
        · exact all_calls A0 c0 l0 A1 c1 l1 A2 c2 l2 A3 c3 l3 w hr0 hc0 hr1 hc1 hr2 hc2 hr3 hc3 b0 b1 b2 b3 _ rfl m0 m1 m2 m3
        · exact all_early3 A0 c0 l0 A1 c1 l1 A2 c2 l2 A3 c3 l3 w m0 m1 m2 (by omega)
      · exact all_early2 A0 c0 l0 A1 c1 l1 A2 c2 l2 A3 c3 l3 w m0 m1 (by omega)
    · exact all_early1 A0 c0 l0 A1 c1 l1 A2 c2 l2 A3 c3 l3 w m0 (by omega)
  · exact all_early0 A0 c0 l0 A1 c1 l1 A2 c2 l2 A3 c3 l3 w (by omega)
theorem wf_i64 {x : Int} (h : (Lit.int .i64 x).wf = true) : -9223372036854775808 ≤ x ∧ x ≤ 9223372036854775807 := by
  simp [Lit.wf] at h; have e1 : IntKind.i64.min = -9223372036854775808 := rfl; have e2 : IntKind.i64.max = 9223372036854775807 := rfl; omega
end Go.Proofs.YtnlbekdjepkhcaaBM
