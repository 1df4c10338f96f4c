-- Written by a program of this session's (ownprint.py, over the kit's print.py); Lean checks it.
import Derived.Test.YtnlbekdjepkhcaaQD0
import Derived.Test.YtnlbekdjepkhcaaQD1
import Derived.Test.YtnlbekdjepkhcaaQD2
namespace Go.Proofs.Ytnlbekdjepkhcaa.QD
open Go.RowKit Go.Proofs.YtnlbekdjepkhcaaW.PrintWords Go.Proofs.YtnlbekdjepkhcaaW.PrintLast Go.Proofs.YtnlbekdjepkhcaaW.PrintMore
attribute [local go_sem] max2_int min2_int max_two min_two max_three min_three max_four min_four   -- for this text's walks alone
set_option linter.unusedVariables false
set_option linter.unusedSimpArgs false

/-! ### ramekinlaw6_BitsApart: function 4 -/
mutual
def ramekinlaw6_BitsApart.l0 : Nat → List Int → List Int → Int → List Int → Int → Int → Option (Bool)
  | 0, _, _, _, _, _, _ => none
  | k + 1, x0, x1, x5, x6, x7, x8 => if x8 < (wrap64 (8 * x5)) then (if 0 ≤ (wrap64 (Int.tdiv x8 8)) then (if (wrap64 (Int.tdiv x8 8)) < (x0.length : Int) then (if 0 ≤ (IntKind.u64.wrap (Int.tmod x8 8)) then (if (wrap64 (Int.tdiv x8 8)) < (x1.length : Int) then (if x7 < (x6.length : Int) then (if 0 ≤ x7 then (ramekinlaw6_BitsApart.j1 k x0 x1 x5 x6 x7 x8 ((Go.bits .and .u8 (shr .u8 (rd x0 (wrap64 (Int.tdiv x8 8))) (IntKind.u64.wrap (Int.tmod x8 8))) 1) != (Go.bits .and .u8 (shr .u8 (rd x1 (wrap64 (Int.tdiv x8 8))) (IntKind.u64.wrap (Int.tmod x8 8))) 1)) (((Go.bits .and .u8 (shr .u8 (rd x0 (wrap64 (Int.tdiv x8 8))) (IntKind.u64.wrap (Int.tmod x8 8))) 1) != (Go.bits .and .u8 (shr .u8 (rd x1 (wrap64 (Int.tdiv x8 8))) (IntKind.u64.wrap (Int.tmod x8 8))) 1)) != ((rd x6 x7) == x8))) else (none)) else (ramekinlaw6_BitsApart.j1 k x0 x1 x5 x6 x7 x8 ((Go.bits .and .u8 (shr .u8 (rd x0 (wrap64 (Int.tdiv x8 8))) (IntKind.u64.wrap (Int.tmod x8 8))) 1) != (Go.bits .and .u8 (shr .u8 (rd x1 (wrap64 (Int.tdiv x8 8))) (IntKind.u64.wrap (Int.tmod x8 8))) 1)) (((Go.bits .and .u8 (shr .u8 (rd x0 (wrap64 (Int.tdiv x8 8))) (IntKind.u64.wrap (Int.tmod x8 8))) 1) != (Go.bits .and .u8 (shr .u8 (rd x1 (wrap64 (Int.tdiv x8 8))) (IntKind.u64.wrap (Int.tmod x8 8))) 1)) != false))) else (none)) else (none)) else (none)) else (none)) else (if x7 = (x6.length : Int) then (if (x0.length : Int) = (x1.length : Int) then (some true) else ((bits_Apart.f x0 x1).bind fun t118 => (some ((t118.length : Int) == 0)))) else (some false))
def ramekinlaw6_BitsApart.j1 : Nat → List Int → List Int → Int → List Int → Int → Int → Bool → Bool → Option (Bool)
  | 0, _, _, _, _, _, _, _, _ => none
  | k + 1, x0, x1, x5, x6, x7, x8, x9, x64 => if x64 = true then (some false) else (if x9 = true then (ramekinlaw6_BitsApart.l0 k x0 x1 x5 x6 (wrap64 (x7 + 1)) (wrap64 (x8 + 1))) else (ramekinlaw6_BitsApart.l0 k x0 x1 x5 x6 x7 (wrap64 (x8 + 1))))
end
def ramekinlaw6_BitsApart.f (k : Nat) (l0 : List Int) (l1 : List Int) : Option (Bool) := (ramekinlaw6_known.f).bind fun t112 => (if t112 = true then (if 0 ≤ (mn (mn (l0.length : Int) (l1.length : Int)) 60) then (if (mn (mn (l0.length : Int) (l1.length : Int)) 60) ≤ (l0.length : Int) then (if (mn (mn (l0.length : Int) (l1.length : Int)) 60) ≤ (l1.length : Int) then ((bits_Apart.f (l0.take ((mn (mn (l0.length : Int) (l1.length : Int)) 60) : Int).toNat) (l1.take ((mn (mn (l0.length : Int) (l1.length : Int)) 60) : Int).toNat)).bind fun t115 => (ramekinlaw6_BitsApart.l0 k l0 l1 (mn (mn (l0.length : Int) (l1.length : Int)) 60) t115 0 0)) else (none)) else (none)) else (none)) else (some false))
theorem ramekinlaw6_BitsApart.mono_l : ∀ k, (∀ y0 y1 y2 y3 y4 y5, LeO (ramekinlaw6_BitsApart.l0 k y0 y1 y2 y3 y4 y5) (ramekinlaw6_BitsApart.l0 (k + 1) y0 y1 y2 y3 y4 y5)) ∧ (∀ y0 y1 y2 y3 y4 y5 y6 y7, LeO (ramekinlaw6_BitsApart.j1 k y0 y1 y2 y3 y4 y5 y6 y7) (ramekinlaw6_BitsApart.j1 (k + 1) y0 y1 y2 y3 y4 y5 y6 y7))
  | 0 => ⟨fun _ _ _ _ _ _ r h => by simp [ramekinlaw6_BitsApart.l0] at h, fun _ _ _ _ _ _ _ _ r h => by simp [ramekinlaw6_BitsApart.j1] at h⟩
  | k + 1 => by
    obtain ⟨ih0, ih1⟩ := ramekinlaw6_BitsApart.mono_l k
    refine ⟨?_, ?_⟩
    · intro y0 y1 y2 y3 y4 y5
      unfold ramekinlaw6_BitsApart.l0
      repeat' first
      | (with_reducible exact ih0 _ _ _ _ _ _)
      | (with_reducible exact ih1 _ _ _ _ _ _ _ _)
      | (with_reducible exact LeO.refl _)
      | (with_reducible exact LeO.none _)
      | (with_reducible refine LeO.ite ?_ ?_)
      | (with_reducible refine LeO.bind ?_ (fun _ => ?_))
      | exact ih0 _ _ _ _ _ _
      | exact ih1 _ _ _ _ _ _ _ _
      | exact LeO.none _
      | refine LeO.ite ?_ ?_
      | refine LeO.bind ?_ (fun _ => ?_)
    · intro y0 y1 y2 y3 y4 y5 y6 y7
      unfold ramekinlaw6_BitsApart.j1
      repeat' first
      | (with_reducible exact ih0 _ _ _ _ _ _)
      | (with_reducible exact ih1 _ _ _ _ _ _ _ _)
      | (with_reducible exact LeO.refl _)
      | (with_reducible exact LeO.none _)
      | (with_reducible refine LeO.ite ?_ ?_)
      | (with_reducible refine LeO.bind ?_ (fun _ => ?_))
      | exact ih0 _ _ _ _ _ _
      | exact ih1 _ _ _ _ _ _ _ _
      | exact LeO.none _
      | refine LeO.ite ?_ ?_
      | refine LeO.bind ?_ (fun _ => ?_)
theorem ramekinlaw6_BitsApart.mono : ∀ a0 a1 k, LeO (ramekinlaw6_BitsApart.f k a0 a1) (ramekinlaw6_BitsApart.f (k + 1) a0 a1) := by
  intro a0 a1 k
  obtain ⟨ih0, ih1⟩ := ramekinlaw6_BitsApart.mono_l k
  unfold ramekinlaw6_BitsApart.f
  repeat' first
      | (with_reducible exact ih0 _ _ _ _ _ _)
      | (with_reducible exact ih1 _ _ _ _ _ _ _ _)
      | (with_reducible exact LeO.refl _)
      | (with_reducible exact LeO.none _)
      | (with_reducible refine LeO.ite ?_ ?_)
      | (with_reducible refine LeO.bind ?_ (fun _ => ?_))
      | exact ih0 _ _ _ _ _ _
      | exact ih1 _ _ _ _ _ _ _ _
      | exact LeO.none _
      | refine LeO.ite ?_ ?_
      | refine LeO.bind ?_ (fun _ => ?_)
def ramekinlaw6_BitsApart.T4 : Bool × List (List Nat × List Nat) := (true, [([], []), ([], []), ([0, 1], [0, 1]), ([], []), ([], []), ([3, 4], [3, 4]), ([2, 5], [2, 5]), ([6, 6, 0, 1, 2, 3, 4, 5, 6], [6])])
def ramekinlaw6_BitsApart.B4 : List Nat := [0, 0, 3, 0, 0, 24, 63, 127]
theorem ramekinlaw6_BitsApart.tab4 : rtab .any (opsOf Try.f4 4) = ramekinlaw6_BitsApart.T4 := by kernel_rfl
theorem ramekinlaw6_BitsApart.bits4 : waitsOk ramekinlaw6_BitsApart.T4.2 ramekinlaw6_BitsApart.B4 = true := by kernel_rfl
def ramekinlaw6_BitsApart.T9 : Bool × List (List Nat × List Nat) := (true, [([], []), ([], []), ([1], [1]), ([0, 2], [0, 2]), ([3], [3]), ([], []), ([5], [5]), ([6], [6]), ([4, 7], [4, 7]), ([8], [8]), ([], []), ([], []), ([11], [11]), ([10, 12], [10, 12]), ([13], [13]), ([], []), ([15], [15]), ([16], [16]), ([14, 17], [14, 17]), ([18], [18]), ([9, 19], [9, 19]), ([20, 0, 1, 2, 3, 4, 5, 6, 7, 8, 9, 10, 11, 12, 13, 14, 15, 16, 17, 18, 19, 20], [20])])
def ramekinlaw6_BitsApart.B9 : List Nat := [0, 0, 2, 7, 15, 0, 32, 96, 255, 511, 0, 0, 2048, 7168, 15360, 0, 32768, 98304, 261120, 523264, 1048575, 2097151]
theorem ramekinlaw6_BitsApart.tab9 : rtab .any (opsOf Try.f4 9) = ramekinlaw6_BitsApart.T9 := by kernel_rfl
theorem ramekinlaw6_BitsApart.bits9 : waitsOk ramekinlaw6_BitsApart.T9.2 ramekinlaw6_BitsApart.B9 = true := by kernel_rfl
set_option maxHeartbeats 8000000 in
set_option maxRecDepth 100000 in
theorem ramekinlaw6_BitsApart.calls (k : Nat) (A0 : Option Addr) (c0 : Nat) (l0 : List Int) (A1 : Option Addr) (c1 : Nat) (l1 : List Int) (r : Bool) (w : World) (hr0 : Kd.C (Kd.int .u8) w A0 l0.length l0) (hc0 : l0.length ≤ c0) (hr1 : Kd.C (Kd.int .u8) w A1 l1.length l1) (hc1 : l1.length ≤ c1) (h : ramekinlaw6_BitsApart.f k l0 l1 = some r) :
    Calls Try.prog 4 #[.slice A0 l0.length c0, .slice A1 l1.length c1] w fun e w' => e = .returned (.bool r) ∧ Below w.heap.size w w' := by
  have HR0 := Aside0.mk hr0
  have HC0 := Aside0.mk hc0
  clear hr0 hc0
  have HR1 := Aside0.mk hr1
  have HC1 := Aside0.mk hc1
  clear hr1 hc1
  have HB := Aside0.mk (Below.refl w.heap.size w)
  have H : ((ramekinlaw6_known.f).bind fun t112 => (if t112 = true then (if 0 ≤ (mn (mn (l0.length : Int) (l1.length : Int)) 60) then (if (mn (mn (l0.length : Int) (l1.length : Int)) 60) ≤ (l0.length : Int) then (if (mn (mn (l0.length : Int) (l1.length : Int)) 60) ≤ (l1.length : Int) then ((bits_Apart.f (l0.take ((mn (mn (l0.length : Int) (l1.length : Int)) 60) : Int).toNat) (l1.take ((mn (mn (l0.length : Int) (l1.length : Int)) 60) : Int).toNat)).bind fun t115 => (ramekinlaw6_BitsApart.l0 k l0 l1 (mn (mn (l0.length : Int) (l1.length : Int)) 60) t115 0 0)) else (none)) else (none)) else (none)) else (some false))) = some r := h
  clear h
  replace H := Option.bind_eq_some_iff.mp H
  obtain ⟨t112, A30, H⟩ := H
  replace H : (if t112 = true then (if 0 ≤ (mn (mn (l0.length : Int) (l1.length : Int)) 60) then (if (mn (mn (l0.length : Int) (l1.length : Int)) 60) ≤ (l0.length : Int) then (if (mn (mn (l0.length : Int) (l1.length : Int)) 60) ≤ (l1.length : Int) then ((bits_Apart.f (l0.take ((mn (mn (l0.length : Int) (l1.length : Int)) 60) : Int).toNat) (l1.take ((mn (mn (l0.length : Int) (l1.length : Int)) 60) : Int).toNat)).bind fun t115 => (ramekinlaw6_BitsApart.l0 k l0 l1 (mn (mn (l0.length : Int) (l1.length : Int)) 60) t115 0 0)) else (none)) else (none)) else (none)) else (some false)) = some r := H
  have A3 := Aside0.mk A30
  clear A30
  by_cases c4 : t112 = true
  · subst c4
    have H1 : (if 0 ≤ (mn (mn (l0.length : Int) (l1.length : Int)) 60) then (if (mn (mn (l0.length : Int) (l1.length : Int)) 60) ≤ (l0.length : Int) then (if (mn (mn (l0.length : Int) (l1.length : Int)) 60) ≤ (l1.length : Int) then ((bits_Apart.f (l0.take ((mn (mn (l0.length : Int) (l1.length : Int)) 60) : Int).toNat) (l1.take ((mn (mn (l0.length : Int) (l1.length : Int)) 60) : Int).toNat)).bind fun t115 => (ramekinlaw6_BitsApart.l0 k l0 l1 (mn (mn (l0.length : Int) (l1.length : Int)) 60) t115 0 0)) else (none)) else (none)) else (none)) = some r := by rw [if_pos rfl] at H; exact H
    clear H
    have H := H1
    clear H1
    obtain ⟨ji5, hji5⟩ : ∃ j_ : Int, (mn (l0.length : Int) (l1.length : Int)) = j_ := ⟨_, rfl⟩
    replace H : (if 0 ≤ (mn (ji5) 60) then (if (mn (ji5) 60) ≤ (l0.length : Int) then (if (mn (ji5) 60) ≤ (l1.length : Int) then ((bits_Apart.f (l0.take ((mn (ji5) 60) : Int).toNat) (l1.take ((mn (ji5) 60) : Int).toNat)).bind fun t115 => (ramekinlaw6_BitsApart.l0 k l0 l1 (mn (ji5) 60) t115 0 0)) else (none)) else (none)) else (none)) = some r := by first | (rw [hji5] at H; exact H) | (simp only [hji5] at H ⊢; exact H)
    (try rw [hji5] at A3)
    (try (have hji5l : 0 ≤ ji5 := by (rw [← hji5]; unfold mn; (repeat' split) <;> omega)))
    (try (have hji5m : 0 ≤ ji5 := by omega))
    have hji5_ : (if (l1.length : Int) < (l0.length : Int) then (l1.length : Int) else (l0.length : Int)) = ji5 := hji5
    have hji5_n : (if l1.length < l0.length then (l1.length : Int) else (l0.length : Int)) = ji5 := by have h_ := hji5_; simp only [Int.ofNat_lt] at h_; exact h_
    (try (have hji5_u : ji5 ≤ (l1.length : Int) ∧ ji5 ≤ (l0.length : Int) := by (rw [← hji5_]; split <;> omega)))
    (try (have hji5_l : 0 ≤ ji5 := by (rw [← hji5_]; split <;> omega)))
    obtain ⟨ji6, hji6⟩ : ∃ j_ : Int, (mn (ji5) 60) = j_ := ⟨_, rfl⟩
    replace H : (if 0 ≤ (ji6) then (if (ji6) ≤ (l0.length : Int) then (if (ji6) ≤ (l1.length : Int) then ((bits_Apart.f (l0.take ((ji6) : Int).toNat) (l1.take ((ji6) : Int).toNat)).bind fun t115 => (ramekinlaw6_BitsApart.l0 k l0 l1 ji6 t115 0 0)) else (none)) else (none)) else (none)) = some r := by first | (rw [hji6] at H; exact H) | (simp only [hji6] at H ⊢; exact H)
    (try rw [hji6] at A3)
    have hji6_ : (if 60 < (ji5) then 60 else (ji5)) = ji6 := hji6
    (try (have hji6_u : ji6 ≤ 60 ∧ ji6 ≤ (ji5) := by (rw [← hji6_]; split <;> omega)))
    (try (have hji6_l : 0 ≤ ji6 := by (rw [← hji6_]; split <;> omega)))
    by_cases c7 : 0 ≤ (ji6)
    · rw [if_pos c7] at H
      have c7b0 := eq_true c7
      have c7b1 : decide (0 ≤ (ji6)) = true := decide_eq_true c7
      clear c7
      by_cases c8 : (ji6) ≤ (l0.length : Int)
      · rw [if_pos c8] at H
        have c8b0 := eq_true c8
        have c8b1 : decide ((ji6) ≤ (l0.length : Int)) = true := decide_eq_true c8
        clear c8
        have c9b0 := eq_true (of_decide_eq_true (by first | (with_reducible assumption) | assumption) : 0 ≤ (ji6))
        by_cases c10 : (ji6) ≤ (l1.length : Int)
        · rw [if_pos c10] at H
          have c10b0 := eq_true c10
          have c10b1 : decide ((ji6) ≤ (l1.length : Int)) = true := decide_eq_true c10
          clear c10
          replace H := Option.bind_eq_some_iff.mp H
          obtain ⟨t115, A110, H⟩ := H
          replace H : (ramekinlaw6_BitsApart.l0 k l0 l1 ji6 t115 0 0) = some r := H
          have A11 := Aside0.mk A110
          clear A110
          have H' := Aside0.mk H
          clear H
          go_enter Try.func4, Try.ntmps4
          try go_wp2_with (first | ((with_reducible refine gate_callee (f := 18) rfl ?_); refine goesL_ (some 10) rfl rfl Try.func18 (by kernel_rfl) rfl #[] rfl (by (try simp only [List.map_toArray, List.map_cons, List.map_nil]); first | done | rfl | (simp only [List.length_drop, List.length_take]; rfl)) ?_; (with_reducible refine (ramekinlaw6_known.calls  true _ A3.out).mono ?_); rintro e w12 ⟨rfl, hb⟩; refine ⟨_, rfl, ?_⟩; have n0_ := Aside0.mk (below_step (by repeat (first | (with_reducible first | exact HB.out | apply below_alloc | apply pw_below_drewN | apply below_drew1) | exact HB.out)) hb); clear HB; have HB := n0_; clear n0_; (try clear hb); (try clear hb2); (try clear hk); (try clear hi)))
          have n0_ := Aside0.mk (below_drew1 HB.out)
          clear HB
          have HB := n0_
          clear n0_
          obtain ⟨i014, hi014, _, hsz14, _⟩ := info_parts info5
          obtain ⟨hcut14, hA14, hC14⟩ := print_take_of (P := Try.prog) (Value.int .u8) 0 28 5 .i64 Try.underlying28 hi014 hsz14 A0 c0 l0 (ji6) (of_decide_eq_true (by first | (with_reducible assumption) | assumption)) (of_decide_eq_true (by first | (with_reducible assumption) | assumption)) HC0.out
          have HR113 := Aside0.mk (Kd.C_of_reads (h1 := fun _ => rfl) (hA14 _ (Kd.reads_of_C HR0.out)))
          have HC113 := Aside0.mk hC14
          clear hA14 hC14 hi014 hsz14
          obtain ⟨i015, hi015, _, hsz15, _⟩ := info_parts info5
          obtain ⟨hcut15, hA15, hC15⟩ := print_take_of (P := Try.prog) (Value.int .u8) 0 28 5 .i64 Try.underlying28 hi015 hsz15 A1 c1 l1 (ji6) (of_decide_eq_true (by first | (with_reducible assumption) | assumption)) (of_decide_eq_true (by first | (with_reducible assumption) | assumption)) HC1.out
          have HR114 := Aside0.mk (Kd.C_of_reads (h1 := fun _ => rfl) (hA15 _ (Kd.reads_of_C HR1.out)))
          have HC114 := Aside0.mk hC15
          clear hA15 hC15 hi015 hsz15
          refine start_ (n := 8) (S := fun w' => True) (ds := []) #[false, false, false, false, false, false, false, false] (by kernel_rfl) rfl rfl trivial (fun hHeld => ?_); refine with_tabW ramekinlaw6_BitsApart.tab4 ramekinlaw6_BitsApart.bits4 (fun HT_ HW_ => ?_)
          generalize w12.drew = w13 at HB HR113 HR114 hHeld ⊢
          refine pure_ (i := 0) (N := some 17) (v := ?_) (a' := ?_) #[true, false, false, false, false, false, false, false] rfl rfl (any_of HT_.out (by kernel_rfl)) (fun _ _ _ h => h) (Or.inl ⟨by rfl, ?_⟩) ?_ ?_
          rotate_left
          · intro w'
            go_simp
            with_reducible rfl
          rotate_left
          · simp only [Act.put, List.setIfInBounds_toArray, List.set_cons_zero, List.set_cons_succ, i64_w, i32_w]
            rfl
          refine pure_ (i := 1) (N := some 18) (v := ?_) (a' := ?_) #[true, true, false, false, false, false, false, false] rfl rfl (any_of HT_.out (by kernel_rfl)) (fun _ _ _ h => h) (Or.inl ⟨by rfl, ?_⟩) ?_ ?_
          rotate_left
          · intro w'
            go_simp
            with_reducible rfl
          rotate_left
          · simp only [Act.put, List.setIfInBounds_toArray, List.set_cons_zero, List.set_cons_succ, i64_w, i32_w]
            rfl
          refine pure_ (i := 2) (N := some 19) (v := ?_) (a' := ?_) #[true, true, true, false, false, false, false, false] rfl rfl (any_of HT_.out (by kernel_rfl)) (fun _ _ _ h => h) (Or.inl ⟨by rfl, ?_⟩) ?_ ?_
          rotate_left
          · intro w'
            go_simp
            with_reducible rfl
          rotate_left
          · simp only [Act.put, List.setIfInBounds_toArray, List.set_cons_zero, List.set_cons_succ, i64_w, i32_w]
            rfl
          refine pure_ (i := 3) (N := some 20) (v := ?_) (a' := ?_) #[true, true, true, true, false, false, false, false] rfl rfl (any_of HT_.out (by kernel_rfl)) (fun _ _ _ h => h) (Or.inl ⟨by rfl, ?_⟩) ?_ ?_
          rotate_left
          · intro w'
            go_simp
            with_reducible rfl
          rotate_left
          · simp only [Act.put, List.setIfInBounds_toArray, List.set_cons_zero, List.set_cons_succ, i64_w, i32_w]
            rfl
          refine pure_ (i := 4) (N := some 21) (v := ?_) (a' := ?_) #[true, true, true, true, true, false, false, false] rfl rfl (any_of HT_.out (by kernel_rfl)) (fun _ _ _ h => h) (Or.inl ⟨by rfl, ?_⟩) ?_ ?_
          rotate_left
          · intro w'
            go_simp
            with_reducible rfl
          rotate_left
          · simp only [Act.put, List.setIfInBounds_toArray, List.set_cons_zero, List.set_cons_succ, i64_w, i32_w]
            rfl
          refine pure_ (i := 5) (N := some 22) (v := ?_) (a' := ?_) #[true, true, true, true, true, true, false, false] rfl rfl (any_of HT_.out (by kernel_rfl)) (fun _ _ _ h => h) (Or.inl ⟨by rfl, ?_⟩) ?_ ?_
          rotate_left
          · intro w'
            go_simp
            with_reducible rfl
          rotate_left
          · simp only [Act.put, List.setIfInBounds_toArray, List.set_cons_zero, List.set_cons_succ, i64_w, i32_w]
            rfl
          refine one_ (i := 6) (N := some 23) #[true, true, true, true, true, true, true, false] rfl rfl (one_of HT_.out (by kernel_rfl)) (by decide) (fun K hK => ?_)
          refine goes_ Try.func19 (by kernel_rfl) rfl #[.slice A0 (l0.take ((ji6) : Int).toNat).length c0, .slice A1 (l1.take ((ji6) : Int).toNat).length c1] (by rfl) rfl rfl (by (try simp only [List.map_toArray, List.map_cons, List.map_nil]); first | done | (rw [show (l0.take ((ji6) : Int).toNat).length = (ji6).toNat from (by rw [List.length_take]; have h_ : ((ji6) : Int) ≤ (l0.length : Int) := of_decide_eq_true (by first | (with_reducible assumption) | assumption); omega)] <;> rfl) | (rw [show (l1.take ((ji6) : Int).toNat).length = (ji6).toNat from (by rw [List.length_take]; have h_ : ((ji6) : Int) ≤ (l1.length : Int) := of_decide_eq_true (by first | (with_reducible assumption) | assumption); omega)] <;> rfl) | (rw [show (l0.take ((ji6) : Int).toNat).length = (ji6).toNat from (by rw [List.length_take]; have h_ : ((ji6) : Int) ≤ (l0.length : Int) := of_decide_eq_true (by first | (with_reducible assumption) | assumption); omega), show (l1.take ((ji6) : Int).toNat).length = (ji6).toNat from (by rw [List.length_take]; have h_ : ((ji6) : Int) ≤ (l1.length : Int) := of_decide_eq_true (by first | (with_reducible assumption) | assumption); omega)] <;> rfl) | (simp only [hji6]; rfl) | rfl | (simp only [List.length_drop, List.length_take]; rfl)) ?_
          with_reducible refine (bits_Apart.calls _ _ (l0.take ((ji6) : Int).toNat) _ _ (l1.take ((ji6) : Int).toNat) t115 _ ?side1 ?side2 ?side3 ?side4 A11.out).mono ?_
          (case side1 => repeat (first | exact (Kd.C_below HR113.out HB.out) | (with_reducible refine Kd.C_alloc ?_ _) | (with_reducible refine Kd.C_drewN ?_ _) | (with_reducible refine Kd.C_drew ?_)))
          (case side2 => exact HC113.out)
          (case side3 => repeat (first | exact (Kd.C_below HR114.out HB.out) | (with_reducible refine Kd.C_alloc ?_ _) | (with_reducible refine Kd.C_drewN ?_ _) | (with_reducible refine Kd.C_drew ?_)))
          (case side4 => exact HC114.out)
          rintro e w16 ⟨v116, rfl, ho0, hb⟩
          refine ⟨_, rfl, ?_⟩
          have n0_ := Aside0.mk (Kd.R_lower ho0 (below_size (by repeat (first | (with_reducible first | exact HB.out | apply below_alloc | apply pw_below_drewN | apply below_drew1) | exact HB.out))))
          have n1_ := Aside0.mk (below_step (by repeat (first | (with_reducible first | exact HB.out | apply below_alloc | apply pw_below_drewN | apply below_drew1) | exact HB.out)) hb)
          clear HB
          have HO117 := n0_
          have HB := n1_
          clear n0_ n1_
          (try clear hb)
          (try clear hb2)
          (try clear hk)
          (try clear hi)
          (try clear ho0)
          refine hK.out _ _ trivial (fun hHeld => ?_)
          clear hK K
          refine norm_ (a' := ?_) ?_ ?_
          rotate_left
          · show Act.put _ (some 23) _ = _
            simp only [Act.put, List.setIfInBounds_toArray, List.set_cons_zero, List.set_cons_succ, i64_w, i32_w]
            rfl
          refine pure_ (i := 7) (N := some 6) (v := ?_) (a' := ?_) #[true, true, true, true, true, true, true, true] rfl rfl (any_of HT_.out (by kernel_rfl)) (fun _ _ _ h => h) (Or.inl ⟨by rfl, ?_⟩) ?_ ?_
          rotate_left
          · intro w'
            go_simp
            with_reducible rfl
          rotate_left
          · simp only [Act.put, List.setIfInBounds_toArray, List.set_cons_zero, List.set_cons_succ, i64_w, i32_w]
            rfl
          refine done_ (done_of HT_.out (by kernel_rfl)) ?_
          try go_wp2
          go_loopg [7, 8] k (fun kq v7 v8 w' => ∃ (x7_1 : Int) (x8_1 : Int), v7 = .int .i64 x7_1 ∧ v8 = .int .i64 x8_1 ∧ Aside0 (ramekinlaw6_BitsApart.l0 kq l0 l1 ji6 t115 x7_1 x8_1 = some r) ∧ Aside0 (kq ≤ k) ∧ Aside0 (Kd.R (Kd.int .i64) 3 w' w.heap.size (fun _ => True) v116 t115) ∧ Aside0 (Below w.heap.size w w'))
          case atStart => exact ⟨(0), (0), (by first | rfl | (simp; done) | (simp [*]; done)), (by first | rfl | (simp; done) | (simp [*]; done)), H', ⟨Nat.le_refl _⟩, ⟨by (with_reducible repeat (first | apply Kd.R_alloc | apply Kd.R_drewN | apply Kd.R_drew)); exact HO117.out⟩, ⟨by repeat (first | (with_reducible first | exact HB.out | apply below_alloc | apply pw_below_drewN | apply below_drew1) | exact HB.out)⟩⟩
          case round =>
            clear H'
            try clear c1
            try clear p2
            try clear c4
            try clear c7
            try clear c7b0
            try clear c7b1
            try clear c8
            try clear c8b0
            try clear c8b1
            try clear c9
            try clear c9b0
            try clear c10
            try clear c10b0
            try clear c10b1
            obtain ⟨x7_1, x8_1, rfl, rfl, HA, HK1, HO_6, HB⟩ := hrel
            cases gk with
            | zero => exact absurd HA.out (by simp [ramekinlaw6_BitsApart.l0])
            | succ k1 =>
              have H := HA.out
              clear HA
              simp only [ramekinlaw6_BitsApart.l0] at H
              by_cases c17 : x8_1 < (wrap64 (8 * ji6))
              · rw [if_pos c17] at H
                have c17b0 : decide (x8_1 < (wrap64 (8 * ji6))) = true := decide_eq_true c17
                (try (have c17b0_w : decide (x8_1 < 8 * ji6) = true := by (have h_ := c17b0; (have hw_ : wrap64 (8 * ji6) = 8 * ji6 := by (unfold wrap64; omega)); rw [hw_] at h_; exact h_)))
                clear c17
                obtain ⟨ji18, hji18⟩ : ∃ j_ : Int, (wrap64 (Int.tdiv x8_1 8)) = j_ := ⟨_, rfl⟩
                replace H : (if 0 ≤ (ji18) then (if (ji18) < (l0.length : Int) then (if 0 ≤ (IntKind.u64.wrap (Int.tmod x8_1 8)) then (if (ji18) < (l1.length : Int) then (if x7_1 < (t115.length : Int) then (if 0 ≤ x7_1 then (ramekinlaw6_BitsApart.j1 k1 l0 l1 ji6 t115 x7_1 x8_1 ((Go.bits .and .u8 (shr .u8 (rd l0 (ji18)) (IntKind.u64.wrap (Int.tmod x8_1 8))) 1) != (Go.bits .and .u8 (shr .u8 (rd l1 (ji18)) (IntKind.u64.wrap (Int.tmod x8_1 8))) 1)) (((Go.bits .and .u8 (shr .u8 (rd l0 (ji18)) (IntKind.u64.wrap (Int.tmod x8_1 8))) 1) != (Go.bits .and .u8 (shr .u8 (rd l1 (ji18)) (IntKind.u64.wrap (Int.tmod x8_1 8))) 1)) != ((rd t115 x7_1) == x8_1))) else (none)) else (ramekinlaw6_BitsApart.j1 k1 l0 l1 ji6 t115 x7_1 x8_1 ((Go.bits .and .u8 (shr .u8 (rd l0 (ji18)) (IntKind.u64.wrap (Int.tmod x8_1 8))) 1) != (Go.bits .and .u8 (shr .u8 (rd l1 (ji18)) (IntKind.u64.wrap (Int.tmod x8_1 8))) 1)) (((Go.bits .and .u8 (shr .u8 (rd l0 (ji18)) (IntKind.u64.wrap (Int.tmod x8_1 8))) 1) != (Go.bits .and .u8 (shr .u8 (rd l1 (ji18)) (IntKind.u64.wrap (Int.tmod x8_1 8))) 1)) != false))) else (none)) else (none)) else (none)) else (none)) = some r := by first | (rw [hji18] at H; exact H) | (simp only [hji18] at H ⊢; exact H)
                have hji18w : (IntKind.i64.wrap (Int.tdiv x8_1 8)) = ji18 := (i64_w _).trans hji18
                by_cases c19 : 0 ≤ (ji18)
                · rw [if_pos c19] at H
                  have c19b0 : decide (0 ≤ (ji18)) = true := decide_eq_true c19
                  clear c19
                  by_cases c20 : (ji18) < (l0.length : Int)
                  · rw [if_pos c20] at H
                    have c20b0 : decide ((ji18) < (l0.length : Int)) = true := decide_eq_true c20
                    clear c20
                    obtain ⟨ji21, hji21⟩ : ∃ j_ : Int, (IntKind.u64.wrap (Int.tmod x8_1 8)) = j_ := ⟨_, rfl⟩
                    replace H : (if 0 ≤ (ji21) then (if (ji18) < (l1.length : Int) then (if x7_1 < (t115.length : Int) then (if 0 ≤ x7_1 then (ramekinlaw6_BitsApart.j1 k1 l0 l1 ji6 t115 x7_1 x8_1 ((Go.bits .and .u8 (shr .u8 (rd l0 (ji18)) (ji21)) 1) != (Go.bits .and .u8 (shr .u8 (rd l1 (ji18)) (ji21)) 1)) (((Go.bits .and .u8 (shr .u8 (rd l0 (ji18)) (ji21)) 1) != (Go.bits .and .u8 (shr .u8 (rd l1 (ji18)) (ji21)) 1)) != ((rd t115 x7_1) == x8_1))) else (none)) else (ramekinlaw6_BitsApart.j1 k1 l0 l1 ji6 t115 x7_1 x8_1 ((Go.bits .and .u8 (shr .u8 (rd l0 (ji18)) (ji21)) 1) != (Go.bits .and .u8 (shr .u8 (rd l1 (ji18)) (ji21)) 1)) (((Go.bits .and .u8 (shr .u8 (rd l0 (ji18)) (ji21)) 1) != (Go.bits .and .u8 (shr .u8 (rd l1 (ji18)) (ji21)) 1)) != false))) else (none)) else (none)) = some r := by first | (rw [hji21] at H; exact H) | (simp only [hji21] at H ⊢; exact H)
                    by_cases c22 : 0 ≤ (ji21)
                    · rw [if_pos c22] at H
                      have c22b0 := eq_true c22
                      have c22b1 : decide (0 ≤ (ji21)) = true := decide_eq_true c22
                      clear c22
                      obtain ⟨ji23, hji23⟩ : ∃ j_ : Int, (shr .u8 (rd l0 (ji18)) (ji21)) = j_ := ⟨_, rfl⟩
                      replace H : (if (ji18) < (l1.length : Int) then (if x7_1 < (t115.length : Int) then (if 0 ≤ x7_1 then (ramekinlaw6_BitsApart.j1 k1 l0 l1 ji6 t115 x7_1 x8_1 ((Go.bits .and .u8 (ji23) 1) != (Go.bits .and .u8 (shr .u8 (rd l1 (ji18)) (ji21)) 1)) (((Go.bits .and .u8 (ji23) 1) != (Go.bits .and .u8 (shr .u8 (rd l1 (ji18)) (ji21)) 1)) != ((rd t115 x7_1) == x8_1))) else (none)) else (ramekinlaw6_BitsApart.j1 k1 l0 l1 ji6 t115 x7_1 x8_1 ((Go.bits .and .u8 (ji23) 1) != (Go.bits .and .u8 (shr .u8 (rd l1 (ji18)) (ji21)) 1)) (((Go.bits .and .u8 (ji23) 1) != (Go.bits .and .u8 (shr .u8 (rd l1 (ji18)) (ji21)) 1)) != false))) else (none)) = some r := by first | (rw [hji23] at H; exact H) | (simp only [hji23] at H ⊢; exact H)
                      have hji23_ : ((rd l0 (ji18)) / 2 ^ min (ji21).toNat 8) = ji23 := hji23
                      have hji23z : (ji21) ≤ 8 → ((rd l0 (ji18)) / 2 ^ (ji21).toNat) = ji23 := shr_small hji23
                      by_cases c24 : (ji18) < (l1.length : Int)
                      · rw [if_pos c24] at H
                        have c24b0 : decide ((ji18) < (l1.length : Int)) = true := decide_eq_true c24
                        clear c24
                        have c25b0 := eq_true (of_decide_eq_true (by first | (with_reducible assumption) | assumption) : 0 ≤ (ji21))
                        obtain ⟨ji26, hji26⟩ : ∃ j_ : Int, (shr .u8 (rd l1 (ji18)) (ji21)) = j_ := ⟨_, rfl⟩
                        replace H : (if x7_1 < (t115.length : Int) then (if 0 ≤ x7_1 then (ramekinlaw6_BitsApart.j1 k1 l0 l1 ji6 t115 x7_1 x8_1 ((Go.bits .and .u8 (ji23) 1) != (Go.bits .and .u8 (ji26) 1)) (((Go.bits .and .u8 (ji23) 1) != (Go.bits .and .u8 (ji26) 1)) != ((rd t115 x7_1) == x8_1))) else (none)) else (ramekinlaw6_BitsApart.j1 k1 l0 l1 ji6 t115 x7_1 x8_1 ((Go.bits .and .u8 (ji23) 1) != (Go.bits .and .u8 (ji26) 1)) (((Go.bits .and .u8 (ji23) 1) != (Go.bits .and .u8 (ji26) 1)) != false))) = some r := by first | (rw [hji26] at H; exact H) | (simp only [hji26] at H ⊢; exact H)
                        have hji26_ : ((rd l1 (ji18)) / 2 ^ min (ji21).toNat 8) = ji26 := hji26
                        have hji26z : (ji21) ≤ 8 → ((rd l1 (ji18)) / 2 ^ (ji21).toNat) = ji26 := shr_small hji26
                        have HC27 := Aside0.mk H
                        clear H
                        try go_wp2
                        have n0_ := Aside0.mk (Kd.R_drew HO_6.out)
                        have n1_ := Aside0.mk (below_drew1 HB.out)
                        clear HO_6
                        clear HB
                        have HO_6 := n0_
                        have HB := n1_
                        clear n0_ n1_
                        have p121 : 0 ≤ ((ji18) : Int) := of_decide_eq_true (by first | (with_reducible assumption) | assumption)
                        have q121 : (ji18) < (l0.length : Int) := of_decide_eq_true (by first | (with_reducible assumption) | assumption)
                        obtain ⟨ad121, e121, hx121_0⟩ := Kd.at_int HR0.out (ji18) p121 q121
                        have hw121_0 := hx121_0
                        cases e121
                        replace hx121_0 := (HB.out.cell (World.block_lt_of_cell? w _ hx121_0)).trans hx121_0
                        replace p121 := eq_true p121
                        replace q121 := eq_true q121
                        have p122 : 0 ≤ ((ji18) : Int) := of_decide_eq_true (by first | (with_reducible assumption) | assumption)
                        have q122 : (ji18) < (l1.length : Int) := of_decide_eq_true (by first | (with_reducible assumption) | assumption)
                        obtain ⟨ad122, e122, hx122_0⟩ := Kd.at_int HR1.out (ji18) p122 q122
                        have hw122_0 := hx122_0
                        cases e122
                        replace hx122_0 := (HB.out.cell (World.block_lt_of_cell? w _ hx122_0)).trans hx122_0
                        replace p122 := eq_true p122
                        replace q122 := eq_true q122
                        refine start_ (n := 22) (S := fun w' => w'.cell? (ad121.add ((ji18)).toNat) = some (.int .u8 (rd l0 (ji18))) ∧ w'.cell? (ad122.add ((ji18)).toNat) = some (.int .u8 (rd l1 (ji18)))) (ds := []) #[false, false, false, false, false, false, false, false, false, false, false, false, false, false, false, false, false, false, false, false, false, false] (by kernel_rfl) rfl rfl ⟨((HB.out.cell (World.block_lt_of_cell? w _ hw121_0)).trans hw121_0), ((HB.out.cell (World.block_lt_of_cell? w _ hw122_0)).trans hw122_0)⟩ (fun hHeld => ?_); refine with_tabW ramekinlaw6_BitsApart.tab9 ramekinlaw6_BitsApart.bits9 (fun HT_ HW_ => ?_)
                        generalize wr.drew = w28 at HO_6 HB hx121_0 hx122_0 hHeld ⊢
                        refine pure_ (i := 0) (N := some 30) (v := ?_) (a' := ?_) #[true, false, false, false, false, false, false, false, false, false, false, false, false, false, false, false, false, false, false, false, false, false] rfl rfl (any_of HT_.out (by kernel_rfl)) (fun _ _ _ h => h) (Or.inl ⟨by rfl, ?_⟩) ?_ ?_
                        rotate_left
                        · intro w'
                          go_simp
                          with_reducible rfl
                        rotate_left
                        · simp only [Act.put, List.setIfInBounds_toArray, List.set_cons_zero, List.set_cons_succ, i64_w, i32_w]
                          rfl
                        refine pure_ (i := 1) (N := some 31) (v := ?_) (a' := ?_) #[true, true, false, false, false, false, false, false, false, false, false, false, false, false, false, false, false, false, false, false, false, false] rfl rfl (any_of HT_.out (by kernel_rfl)) (fun _ _ _ h => h) (Or.inl ⟨by rfl, ?_⟩) ?_ ?_
                        rotate_left
                        · intro w'
                          go_simp
                          with_reducible rfl
                        rotate_left
                        · simp only [Act.put, List.setIfInBounds_toArray, List.set_cons_zero, List.set_cons_succ, i64_w, i32_w]
                          rfl
                        refine pure_ (i := 2) (N := some 32) (v := ?_) (a' := ?_) #[true, true, true, false, false, false, false, false, false, false, false, false, false, false, false, false, false, false, false, false, false, false] rfl rfl (any_of HT_.out (by kernel_rfl)) (fun _ _ _ h => h) (Or.inl ⟨by rfl, ?_⟩) ?_ ?_
                        rotate_left
                        · intro w'
                          go_simp
                          with_reducible rfl
                        rotate_left
                        · simp only [Act.put, List.setIfInBounds_toArray, List.set_cons_zero, List.set_cons_succ, i64_w, i32_w]
                          rfl
                        refine pure_ (i := 3) (N := some 33) (v := ?_) (a' := ?_) #[true, true, true, true, false, false, false, false, false, false, false, false, false, false, false, false, false, false, false, false, false, false] rfl rfl (any_of HT_.out (by kernel_rfl)) (fun _ _ _ h => h) (Or.inl ⟨by rfl, ?_⟩) ?_ ?_
                        rotate_left
                        · intro w'
                          go_simp
                          with_reducible rfl
                        rotate_left
                        · simp only [Act.put, List.setIfInBounds_toArray, List.set_cons_zero, List.set_cons_succ, i64_w, i32_w]
                          rfl
                        refine pure_ (i := 5) (N := some 35) (v := ?_) (a' := ?_) #[true, true, true, true, false, true, false, false, false, false, false, false, false, false, false, false, false, false, false, false, false, false] rfl rfl (any_of HT_.out (by kernel_rfl)) (fun _ _ _ h => h) (Or.inl ⟨by rfl, ?_⟩) ?_ ?_
                        rotate_left
                        · intro w'
                          go_simp
                          with_reducible rfl
                        rotate_left
                        · simp only [Act.put, List.setIfInBounds_toArray, List.set_cons_zero, List.set_cons_succ, i64_w, i32_w]
                          rfl
                        refine pure_ (i := 6) (N := some 36) (v := ?_) (a' := ?_) #[true, true, true, true, false, true, true, false, false, false, false, false, false, false, false, false, false, false, false, false, false, false] rfl rfl (any_of HT_.out (by kernel_rfl)) (fun _ _ _ h => h) (Or.inl ⟨by rfl, ?_⟩) ?_ ?_
                        rotate_left
                        · intro w'
                          go_simp
                          with_reducible rfl
                        rotate_left
                        · simp only [Act.put, List.setIfInBounds_toArray, List.set_cons_zero, List.set_cons_succ, i64_w, i32_w]
                          rfl
                        refine pure_ (i := 7) (N := some 37) (v := ?_) (a' := ?_) #[true, true, true, true, false, true, true, true, false, false, false, false, false, false, false, false, false, false, false, false, false, false] rfl rfl (any_of HT_.out (by kernel_rfl)) (fun _ _ _ h => h) (Or.inl ⟨by rfl, ?_⟩) ?_ ?_
                        rotate_left
                        · intro w'
                          go_simp
                          with_reducible rfl
                        rotate_left
                        · simp only [Act.put, List.setIfInBounds_toArray, List.set_cons_zero, List.set_cons_succ, i64_w, i32_w]
                          rfl
                        refine pure_ (i := 10) (N := some 40) (v := ?_) (a' := ?_) #[true, true, true, true, false, true, true, true, false, false, true, false, false, false, false, false, false, false, false, false, false, false] rfl rfl (any_of HT_.out (by kernel_rfl)) (fun _ _ _ h => h) (Or.inl ⟨by rfl, ?_⟩) ?_ ?_
                        rotate_left
                        · intro w'
                          go_simp
                          with_reducible rfl
                        rotate_left
                        · simp only [Act.put, List.setIfInBounds_toArray, List.set_cons_zero, List.set_cons_succ, i64_w, i32_w]
                          rfl
                        refine pure_ (i := 11) (N := some 41) (v := ?_) (a' := ?_) #[true, true, true, true, false, true, true, true, false, false, true, true, false, false, false, false, false, false, false, false, false, false] rfl rfl (any_of HT_.out (by kernel_rfl)) (fun _ _ _ h => h) (Or.inl ⟨by rfl, ?_⟩) ?_ ?_
                        rotate_left
                        · intro w'
                          go_simp
                          with_reducible rfl
                        rotate_left
                        · simp only [Act.put, List.setIfInBounds_toArray, List.set_cons_zero, List.set_cons_succ, i64_w, i32_w]
                          rfl
                        refine pure_ (i := 12) (N := some 42) (v := ?_) (a' := ?_) #[true, true, true, true, false, true, true, true, false, false, true, true, true, false, false, false, false, false, false, false, false, false] rfl rfl (any_of HT_.out (by kernel_rfl)) (fun _ _ _ h => h) (Or.inl ⟨by rfl, ?_⟩) ?_ ?_
                        rotate_left
                        · intro w'
                          go_simp
                          with_reducible rfl
                        rotate_left
                        · simp only [Act.put, List.setIfInBounds_toArray, List.set_cons_zero, List.set_cons_succ, i64_w, i32_w]
                          rfl
                        refine pure_ (i := 13) (N := some 43) (v := ?_) (a' := ?_) #[true, true, true, true, false, true, true, true, false, false, true, true, true, true, false, false, false, false, false, false, false, false] rfl rfl (any_of HT_.out (by kernel_rfl)) (fun _ _ _ h => h) (Or.inl ⟨by rfl, ?_⟩) ?_ ?_
                        rotate_left
                        · intro w'
                          go_simp
                          with_reducible rfl
                        rotate_left
                        · simp only [Act.put, List.setIfInBounds_toArray, List.set_cons_zero, List.set_cons_succ, i64_w, i32_w]
                          rfl
                        refine pure_ (i := 15) (N := some 45) (v := ?_) (a' := ?_) #[true, true, true, true, false, true, true, true, false, false, true, true, true, true, false, true, false, false, false, false, false, false] rfl rfl (any_of HT_.out (by kernel_rfl)) (fun _ _ _ h => h) (Or.inl ⟨by rfl, ?_⟩) ?_ ?_
                        rotate_left
                        · intro w'
                          go_simp
                          with_reducible rfl
                        rotate_left
                        · simp only [Act.put, List.setIfInBounds_toArray, List.set_cons_zero, List.set_cons_succ, i64_w, i32_w]
                          rfl
                        refine pure_ (i := 16) (N := some 46) (v := ?_) (a' := ?_) #[true, true, true, true, false, true, true, true, false, false, true, true, true, true, false, true, true, false, false, false, false, false] rfl rfl (any_of HT_.out (by kernel_rfl)) (fun _ _ _ h => h) (Or.inl ⟨by rfl, ?_⟩) ?_ ?_
                        rotate_left
                        · intro w'
                          go_simp
                          with_reducible rfl
                        rotate_left
                        · simp only [Act.put, List.setIfInBounds_toArray, List.set_cons_zero, List.set_cons_succ, i64_w, i32_w]
                          rfl
                        refine pure_ (i := 17) (N := some 47) (v := ?_) (a' := ?_) #[true, true, true, true, false, true, true, true, false, false, true, true, true, true, false, true, true, true, false, false, false, false] rfl rfl (any_of HT_.out (by kernel_rfl)) (fun _ _ _ h => h) (Or.inl ⟨by rfl, ?_⟩) ?_ ?_
                        rotate_left
                        · intro w'
                          go_simp
                          with_reducible rfl
                        rotate_left
                        · simp only [Act.put, List.setIfInBounds_toArray, List.set_cons_zero, List.set_cons_succ, i64_w, i32_w]
                          rfl
                        refine take_ (i := 4) (N := some 34) (v := ?_) (a' := ?_) #[true, true, true, true, true, true, true, true, false, false, true, true, true, true, false, true, true, true, false, false, false, false] rfl rfl (take_ofW HT_.out HW_.out (by kernel_rfl)) (fun _ _ _ h => h) (Or.inl ⟨by rfl, ?_⟩) hHeld ?_ ?_
                        rotate_left
                        · rintro w' ⟨s0, s1⟩
                          go_simp
                          with_reducible rfl
                        rotate_left
                        · simp only [Act.put, List.setIfInBounds_toArray, List.set_cons_zero, List.set_cons_succ, i64_w, i32_w]
                          rfl
                        refine pure_ (i := 8) (N := some 38) (v := ?_) (a' := ?_) #[true, true, true, true, true, true, true, true, true, false, true, true, true, true, false, true, true, true, false, false, false, false] rfl rfl (any_of HT_.out (by kernel_rfl)) (fun _ _ _ h => h) (Or.inl ⟨by rfl, ?_⟩) ?_ ?_
                        rotate_left
                        · intro w'
                          go_simp
                          with_reducible rfl
                        rotate_left
                        · simp only [Act.put, List.setIfInBounds_toArray, List.set_cons_zero, List.set_cons_succ, i64_w, i32_w]
                          rfl
                        refine pure_ (i := 9) (N := some 39) (v := ?_) (a' := ?_) #[true, true, true, true, true, true, true, true, true, true, true, true, true, true, false, true, true, true, false, false, false, false] rfl rfl (any_of HT_.out (by kernel_rfl)) (fun _ _ _ h => h) (Or.inl ⟨by rfl, ?_⟩) ?_ ?_
                        rotate_left
                        · intro w'
                          go_simp
                          with_reducible rfl
                        rotate_left
                        · simp only [Act.put, List.setIfInBounds_toArray, List.set_cons_zero, List.set_cons_succ, i64_w, i32_w]
                          rfl
                        refine take_ (i := 14) (N := some 44) (v := ?_) (a' := ?_) #[true, true, true, true, true, true, true, true, true, true, true, true, true, true, true, true, true, true, false, false, false, false] rfl rfl (take_ofW HT_.out HW_.out (by kernel_rfl)) (fun _ _ _ h => h) (Or.inl ⟨by rfl, ?_⟩) hHeld ?_ ?_
                        rotate_left
                        · rintro w' ⟨s0, s1⟩
                          go_simp
                          with_reducible rfl
                        rotate_left
                        · simp only [Act.put, List.setIfInBounds_toArray, List.set_cons_zero, List.set_cons_succ, i64_w, i32_w]
                          rfl
                        refine pure_ (i := 18) (N := some 48) (v := ?_) (a' := ?_) #[true, true, true, true, true, true, true, true, true, true, true, true, true, true, true, true, true, true, true, false, false, false] rfl rfl (any_of HT_.out (by kernel_rfl)) (fun _ _ _ h => h) (Or.inl ⟨by rfl, ?_⟩) ?_ ?_
                        rotate_left
                        · intro w'
                          go_simp
                          with_reducible rfl
                        rotate_left
                        · simp only [Act.put, List.setIfInBounds_toArray, List.set_cons_zero, List.set_cons_succ, i64_w, i32_w]
                          rfl
                        refine pure_ (i := 19) (N := some 49) (v := ?_) (a' := ?_) #[true, true, true, true, true, true, true, true, true, true, true, true, true, true, true, true, true, true, true, true, false, false] rfl rfl (any_of HT_.out (by kernel_rfl)) (fun _ _ _ h => h) (Or.inl ⟨by rfl, ?_⟩) ?_ ?_
                        rotate_left
                        · intro w'
                          go_simp
                          with_reducible rfl
                        rotate_left
                        · simp only [Act.put, List.setIfInBounds_toArray, List.set_cons_zero, List.set_cons_succ, i64_w, i32_w]
                          rfl
                        refine pure_ (i := 20) (N := some 50) (v := ?_) (a' := ?_) #[true, true, true, true, true, true, true, true, true, true, true, true, true, true, true, true, true, true, true, true, true, false] rfl rfl (any_of HT_.out (by kernel_rfl)) (fun _ _ _ h => h) (Or.inl ⟨by rfl, ?_⟩) ?_ ?_
                        rotate_left
                        · intro w'
                          go_simp
                          with_reducible rfl
                        rotate_left
                        · simp only [Act.put, List.setIfInBounds_toArray, List.set_cons_zero, List.set_cons_succ, i64_w, i32_w]
                          rfl
                        refine pure_ (i := 21) (N := some 9) (v := ?_) (a' := ?_) #[true, true, true, true, true, true, true, true, true, true, true, true, true, true, true, true, true, true, true, true, true, true] rfl rfl (any_of HT_.out (by kernel_rfl)) (fun _ _ _ h => h) (Or.inl ⟨by rfl, ?_⟩) ?_ ?_
                        rotate_left
                        · intro w'
                          go_simp
                          with_reducible rfl
                        rotate_left
                        · simp only [Act.put, List.setIfInBounds_toArray, List.set_cons_zero, List.set_cons_succ, i64_w, i32_w]
                          rfl
                        refine done_ (done_of HT_.out (by kernel_rfl)) ?_
                        go_upto_region 10 with (fail)
                        go_cut [64] (fun v64 wc => ∃ (kq : Nat) (x64_26 : Bool), v64 = .bool x64_26 ∧ Aside0 (ramekinlaw6_BitsApart.j1 kq l0 l1 ji6 t115 x7_1 x8_1 ((Go.bits .and .u8 (ji23) 1) != (Go.bits .and .u8 (ji26) 1)) x64_26 = some r) ∧ Aside0 (kq ≤ k1) ∧ Aside0 (Kd.R (Kd.int .i64) 3 wc w.heap.size (fun _ => True) v116 t115) ∧ Aside0 (Below w.heap.size w wc))
                        case first =>
                          have H := HC27.out
                          clear HC27
                          by_cases c29 : x7_1 < (t115.length : Int)
                          · rw [if_pos c29] at H
                            have c29b0 : decide (x7_1 < (t115.length : Int)) = true := decide_eq_true c29
                            clear c29
                            (first | rw [c29b0] | (simp only [i64_w, i32_w]; rw [c29b0]) | skip)
                            by_cases c30 : 0 ≤ x7_1
                            · rw [if_pos c30] at H
                              have c30b0 : decide (0 ≤ x7_1) = true := decide_eq_true c30
                              clear c30
                              have H' := Aside0.mk H
                              clear H
                              obtain ⟨Ao31, co31, eo31⟩ := Kd.R_slice HO_6.out
                              subst eo31
                              have p123 : 0 ≤ (x7_1 : Int) := of_decide_eq_true (by first | (with_reducible assumption) | assumption)
                              have q123 : x7_1 < (t115.length : Int) := of_decide_eq_true (by first | (with_reducible assumption) | assumption)
                              obtain ⟨ad123, e123, hx123_0⟩ := Kd.at_int (Kd.R_reads' HO_6.out).2.2 x7_1 p123 q123
                              cases e123
                              replace p123 := eq_true p123
                              replace q123 := eq_true q123
                              go_wp2
                              go_meet
                              case rel => exact ⟨_, ((((Go.bits .and .u8 (ji23) 1) != (Go.bits .and .u8 (ji26) 1)) != ((rd t115 x7_1) == x8_1))), (by first | rfl | (simp; done) | (simp only [← hji23, ← hji26] <;> (first | rfl | simp)) | (simp [*]; done)), H', ⟨by have := HK1.out; first | omega | exact Nat.le_refl _⟩, ⟨by (with_reducible repeat (first | apply Kd.R_alloc | apply Kd.R_drewN | apply Kd.R_drew)); exact HO_6.out⟩, ⟨by repeat (first | (with_reducible first | exact HB.out | apply below_alloc | apply pw_below_drewN | apply below_drew1) | exact HB.out)⟩⟩
                            · rw [if_neg c30] at H
                              exact absurd H (by simp)
                          · rw [if_neg c29] at H
                            have c29b0 : decide (x7_1 < (t115.length : Int)) = false := decide_eq_false c29
                            clear c29
                            (first | rw [c29b0] | (simp only [i64_w, i32_w]; rw [c29b0]) | skip)
                            have H' := Aside0.mk H
                            clear H
                            obtain ⟨Ao32, co32, eo32⟩ := Kd.R_slice HO_6.out
                            subst eo32
                            go_wp2
                            go_meet
                            case rel => exact ⟨_, ((((Go.bits .and .u8 (ji23) 1) != (Go.bits .and .u8 (ji26) 1)) != false)), (by first | rfl | (simp; done) | (simp only [← hji23, ← hji26] <;> (first | rfl | simp)) | (simp [*]; done)), H', ⟨by have := HK1.out; first | omega | exact Nat.le_refl _⟩, ⟨by (with_reducible repeat (first | apply Kd.R_alloc | apply Kd.R_drewN | apply Kd.R_drew)); exact HO_6.out⟩, ⟨by repeat (first | (with_reducible first | exact HB.out | apply below_alloc | apply pw_below_drewN | apply below_drew1) | exact HB.out)⟩⟩
                        case rest =>
                          clear HC27
                          try clear c1
                          try clear p1
                          try clear q1
                          try clear hx1
                          try clear c2
                          try clear p2
                          try clear c3
                          try clear c4
                          try clear p6
                          try clear c7
                          try clear c7b0
                          try clear c7b1
                          try clear c8
                          try clear c8b0
                          try clear c8b1
                          try clear c9
                          try clear c9b0
                          try clear c10
                          try clear c10b0
                          try clear c10b1
                          try clear p12
                          try clear q12
                          try clear hx12
                          try clear c17
                          try clear c17b0
                          try clear c18
                          try clear c19
                          try clear c19b0
                          try clear c20
                          try clear c20b0
                          try clear c22
                          try clear c22b0
                          try clear c22b1
                          try clear c24
                          try clear c24b0
                          try clear c25
                          try clear c25b0
                          try clear c29
                          try clear c29b0
                          try clear c30
                          try clear c30b0
                          try clear hx121_0
                          try clear hx122_0
                          try clear hx123_0
                          try clear p121
                          try clear p122
                          try clear p123
                          try clear p2
                          try clear q121
                          try clear q122
                          try clear q123
                          obtain ⟨kq, x64_26, rfl, HA, HJ26, HO_6, HB⟩ := hcut
                          cases kq with
                          | zero => exact absurd HA.out (by simp [ramekinlaw6_BitsApart.j1])
                          | succ kj26 =>
                            have H := HA.out
                            clear HA
                            simp only [ramekinlaw6_BitsApart.j1] at H
                            by_cases c33 : x64_26 = true
                            · subst c33
                              have H1 : (some false) = some r := by rw [if_pos rfl] at H; exact H
                              clear H
                              have H := H1
                              clear H1
                              obtain rfl := Option.some.inj H
                              go_wp2
                              go_ret
                              exact ⟨by first | rfl | (simp [errW_none, errW_some] <;> rfl) | (simp only [← hji5, ← hji6, ← hji18, ← hji21, ← hji23, ← hji26]; first | rfl | (simp [errW_none, errW_some] <;> rfl)) | (simp [*, errW_none, errW_some] <;> rfl), by repeat (first | (with_reducible first | exact HB.out | apply below_alloc | apply pw_below_drewN | apply below_drew1) | exact HB.out)⟩
                            · replace c33 := Bool.eq_false_iff.mpr c33
                              subst c33
                              have H1 : (if ((Go.bits .and .u8 (ji23) 1) != (Go.bits .and .u8 (ji26) 1)) = true then (ramekinlaw6_BitsApart.l0 kj26 l0 l1 ji6 t115 (wrap64 (x7_1 + 1)) (wrap64 (x8_1 + 1))) else (ramekinlaw6_BitsApart.l0 kj26 l0 l1 ji6 t115 x7_1 (wrap64 (x8_1 + 1)))) = some r := by rw [if_neg (show ¬ (false = true) by decide)] at H; exact H
                              clear H
                              have H := H1
                              clear H1
                              by_cases c34 : ((Go.bits .and .u8 (ji23) 1) != (Go.bits .and .u8 (ji26) 1)) = true
                              · rw [if_pos c34] at H
                                have c34b0 : ((Go.bits .and .u8 (ji23) 1) != (Go.bits .and .u8 (ji26) 1)) = true := c34
                                (try (have c34b1 : decide ((Go.bits .and .u8 (ji23) 1) = (Go.bits .and .u8 (ji26) 1)) = false := by simpa using c34))
                                (try (have c34b2 : ((Go.bits .and .u8 (ji23) 1) == (Go.bits .and .u8 (ji26) 1)) = false := by simpa using c34))
                                (try (have c34b3 : ¬ ((Go.bits .and .u8 (ji23) 1) = (Go.bits .and .u8 (ji26) 1)) := by simpa using c34))
                                clear c34
                                have H' := Aside0.mk H
                                clear H
                                go_wp2
                                go_roundg kj26
                                case measure => have := HK1.out; have := HJ26.out; omega
                                case rel => exact ⟨(wrap64 (x7_1 + 1)), (wrap64 (x8_1 + 1)), (by first | rfl | (simp; done) | (simp [*]; done)), (by first | rfl | (simp; done) | (simp [*]; done)), H', ⟨by have := HK1.out; have := HJ26.out; omega⟩, ⟨by (with_reducible repeat (first | apply Kd.R_alloc | apply Kd.R_drewN | apply Kd.R_drew)); exact HO_6.out⟩, ⟨by repeat (first | (with_reducible first | exact HB.out | apply below_alloc | apply pw_below_drewN | apply below_drew1) | exact HB.out)⟩⟩
                              · rw [if_neg c34] at H
                                have c34b0 : ((Go.bits .and .u8 (ji23) 1) != (Go.bits .and .u8 (ji26) 1)) = false := by simpa using c34
                                (try (have c34b1 : decide ((Go.bits .and .u8 (ji23) 1) = (Go.bits .and .u8 (ji26) 1)) = true := by simpa using c34))
                                (try (have c34b2 : ((Go.bits .and .u8 (ji23) 1) == (Go.bits .and .u8 (ji26) 1)) = true := by simpa using c34))
                                clear c34
                                have H' := Aside0.mk H
                                clear H
                                go_wp2
                                go_roundg kj26
                                case measure => have := HK1.out; have := HJ26.out; omega
                                case rel => exact ⟨(x7_1), (wrap64 (x8_1 + 1)), (by first | rfl | (simp; done) | (simp [*]; done)), (by first | rfl | (simp; done) | (simp [*]; done)), H', ⟨by have := HK1.out; have := HJ26.out; omega⟩, ⟨by (with_reducible repeat (first | apply Kd.R_alloc | apply Kd.R_drewN | apply Kd.R_drew)); exact HO_6.out⟩, ⟨by repeat (first | (with_reducible first | exact HB.out | apply below_alloc | apply pw_below_drewN | apply below_drew1) | exact HB.out)⟩⟩
                      · rw [if_neg c24] at H
                        exact absurd H (by simp)
                    · rw [if_neg c22] at H
                      exact absurd H (by simp)
                  · rw [if_neg c20] at H
                    exact absurd H (by simp)
                · rw [if_neg c19] at H
                  exact absurd H (by simp)
              · rw [if_neg c17] at H
                have c17b0 : decide (x8_1 < (wrap64 (8 * ji6))) = false := decide_eq_false c17
                (try (have c17b0_w : decide (x8_1 < 8 * ji6) = false := by (have h_ := c17b0; (have hw_ : wrap64 (8 * ji6) = 8 * ji6 := by (unfold wrap64; omega)); rw [hw_] at h_; exact h_)))
                clear c17
                by_cases c35 : x7_1 = (t115.length : Int)
                · rw [if_pos c35] at H
                  have c35b0 : (x7_1 == (t115.length : Int)) = true := beq_iff_eq.mpr c35
                  have c35b1 : (x7_1 != (t115.length : Int)) = false := bne_eq_false_iff_eq.mpr c35
                  clear c35
                  by_cases c36 : (l0.length : Int) = (l1.length : Int)
                  · rw [if_pos c36] at H
                    have c36b0 : ((l0.length : Int) == (l1.length : Int)) = true := beq_iff_eq.mpr c36
                    have c36b1 : ((l0.length : Int) != (l1.length : Int)) = false := bne_eq_false_iff_eq.mpr c36
                    have c36b2 : (l0.length == l1.length) = true := by first | simpa using c36 | (simp at c36 ⊢; omega)
                    clear c36
                    obtain rfl := Option.some.inj H
                    obtain ⟨Ao37, co37, eo37⟩ := Kd.R_slice HO_6.out
                    subst eo37
                    go_wp2
                    go_ret
                    exact ⟨by first | rfl | (simp [errW_none, errW_some] <;> rfl) | (simp only [← hji5, ← hji6]; first | rfl | (simp [errW_none, errW_some] <;> rfl)) | (simp [*, errW_none, errW_some] <;> rfl), by repeat (first | (with_reducible first | exact HB.out | apply below_alloc | apply pw_below_drewN | apply below_drew1) | exact HB.out)⟩
                  · rw [if_neg c36] at H
                    have c36b0 : ((l0.length : Int) == (l1.length : Int)) = false := beq_eq_false_iff_ne.mpr c36
                    have c36b1 : ((l0.length : Int) != (l1.length : Int)) = true := bne_iff_ne.mpr c36
                    have c36b2 : (l0.length == l1.length) = false := by first | simpa using c36 | (simp at c36 ⊢; omega)
                    replace H := Option.bind_eq_some_iff.mp H
                    obtain ⟨t118, A380, H⟩ := H
                    replace H : (some ((t118.length : Int) == 0)) = some r := H
                    have A38 := Aside0.mk A380
                    clear A380
                    obtain rfl := Option.some.inj H
                    obtain ⟨Ao39, co39, eo39⟩ := Kd.R_slice HO_6.out
                    subst eo39
                    go_wp2_with (first | (go_at_call 19; (with_reducible refine (bits_Apart.calls _ _ l0 _ _ l1 t118 _ ?side1 ?side2 ?side3 ?side4 A38.out).mono ?_); (case side1 => repeat (first | exact (Kd.C_below HR0.out HB.out) | (with_reducible refine Kd.C_alloc ?_ _) | (with_reducible refine Kd.C_drewN ?_ _) | (with_reducible refine Kd.C_drew ?_))); (case side2 => exact HC0.out); (case side3 => repeat (first | exact (Kd.C_below HR1.out HB.out) | (with_reducible refine Kd.C_alloc ?_ _) | (with_reducible refine Kd.C_drewN ?_ _) | (with_reducible refine Kd.C_drew ?_))); (case side4 => exact HC1.out); rintro e w40 ⟨v119, rfl, ho0, hb⟩; have n0_ := Aside0.mk (Kd.R_elder' (by (with_reducible repeat (first | apply Kd.R_alloc | apply Kd.R_drewN | apply Kd.R_drew)); exact HO_6.out) (Kd.R_base ho0) hb); have n1_ := Aside0.mk (Kd.R_lower (Kd.R_new' ho0 (Kd.R_lt (by (with_reducible repeat (first | apply Kd.R_alloc | apply Kd.R_drewN | apply Kd.R_drew)); exact HO_6.out))) (below_size (by repeat (first | (with_reducible first | exact HB.out | apply below_alloc | apply pw_below_drewN | apply below_drew1) | exact HB.out)))); have n2_ := Aside0.mk (below_step (by repeat (first | (with_reducible first | exact HB.out | apply below_alloc | apply pw_below_drewN | apply below_drew1) | exact HB.out)) hb); clear HO_6; clear HB; have HO_6 := n0_; have HO120 := n1_; have HB := n2_; clear n0_ n1_ n2_; (try clear hb); (try clear hb2); (try clear hk); (try clear hi); (try clear ho0); obtain ⟨Ao41, co41, eo41⟩ := Kd.R_slice HO120.out; subst eo41))
                    go_ret
                    exact ⟨by first | rfl | (simp [errW_none, errW_some] <;> rfl) | (simp only [← hji5, ← hji6]; first | rfl | (simp [errW_none, errW_some] <;> rfl)) | (simp [*, errW_none, errW_some] <;> rfl), by repeat (first | (with_reducible first | exact HB.out | apply below_alloc | apply pw_below_drewN | apply below_drew1) | exact HB.out)⟩
                · rw [if_neg c35] at H
                  have c35b0 : (x7_1 == (t115.length : Int)) = false := beq_eq_false_iff_ne.mpr c35
                  have c35b1 : (x7_1 != (t115.length : Int)) = true := bne_iff_ne.mpr c35
                  obtain rfl := Option.some.inj H
                  obtain ⟨Ao42, co42, eo42⟩ := Kd.R_slice HO_6.out
                  subst eo42
                  go_wp2
                  go_ret
                  exact ⟨by first | rfl | (simp [errW_none, errW_some] <;> rfl) | (simp only [← hji5, ← hji6]; first | rfl | (simp [errW_none, errW_some] <;> rfl)) | (simp [*, errW_none, errW_some] <;> rfl), by repeat (first | (with_reducible first | exact HB.out | apply below_alloc | apply pw_below_drewN | apply below_drew1) | exact HB.out)⟩
        · rw [if_neg c10] at H
          exact absurd H (by simp)
      · rw [if_neg c8] at H
        exact absurd H (by simp)
    · rw [if_neg c7] at H
      exact absurd H (by simp)
  · replace c4 := Bool.eq_false_iff.mpr c4
    subst c4
    have H1 : (some false) = some r := by rw [if_neg (show ¬ (false = true) by decide)] at H; exact H
    clear H
    have H := H1
    clear H1
    obtain rfl := Option.some.inj H
    go_enter Try.func4, Try.ntmps4
    go_wp2_with (first | ((with_reducible refine gate_callee (f := 18) rfl ?_); refine goesL_ (some 10) rfl rfl Try.func18 (by kernel_rfl) rfl #[] rfl (by (try simp only [List.map_toArray, List.map_cons, List.map_nil]); first | done | rfl | (simp only [List.length_drop, List.length_take]; rfl)) ?_; (with_reducible refine (ramekinlaw6_known.calls  false _ A3.out).mono ?_); rintro e w43 ⟨rfl, hb⟩; refine ⟨_, rfl, ?_⟩; have n0_ := Aside0.mk (below_step (by repeat (first | (with_reducible first | exact HB.out | apply below_alloc | apply pw_below_drewN | apply below_drew1) | exact HB.out)) hb); clear HB; have HB := n0_; clear n0_; (try clear hb); (try clear hb2); (try clear hk); (try clear hi)))
    go_ret
    exact ⟨by first | rfl | (simp [errW_none, errW_some] <;> rfl) | (simp [*, errW_none, errW_some] <;> rfl), by repeat (first | (with_reducible first | exact HB.out | apply below_alloc | apply pw_below_drewN | apply below_drew1) | exact HB.out)⟩

/-- THE ONE PURE STATEMENT of ramekinlaw6_BitsApart: yours. -/
def ramekinlaw6_BitsApart.Pure : Prop := ∀ (l0 : List Int) (l1 : List Int), l0.length ≤ maxLen → l0.length * 1 ≤ 140737488351232 → (∀ x ∈ l0, (Lit.int .u8 x).wf = true) → l1.length ≤ maxLen → l1.length * 1 ≤ 140737488351232 → (∀ x ∈ l1, (Lit.int .u8 x).wf = true) → ∃ k, ramekinlaw6_BitsApart.f k l0 l1 = some true
theorem ramekinlaw6_BitsApart.walk (P : ramekinlaw6_BitsApart.Pure) (a0 : Option Addr) (len0 cap0 : Nat) (z0 : List Int) (a1 : Option Addr) (len1 cap1 : Nat) (z1 : List Int) (w : World) (w0 : (a0 = none ∧ len0 = 0 ∧ cap0 = 0 ∧ z0 = []) ∨ ∃ x, a0 = some x ∧ len0 ≤ cap0 ∧ cap0 ≤ maxLen ∧ z0.length = cap0 ∧ (∀ i, i < z0.length → w.cell? (x.add i) = some (.int .u8 (z0.getD i 0))) ∧ ∀ n ∈ z0, (Lit.int .u8 n).wf = true) (y0 : len0 * 1 ≤ 140737488351232) (w1 : (a1 = none ∧ len1 = 0 ∧ cap1 = 0 ∧ z1 = []) ∨ ∃ x, a1 = some x ∧ len1 ≤ cap1 ∧ cap1 ≤ maxLen ∧ z1.length = cap1 ∧ (∀ i, i < z1.length → w.cell? (x.add i) = some (.int .u8 (z1.getD i 0))) ∧ ∀ n ∈ z1, (Lit.int .u8 n).wf = true) (y1 : len1 * 1 ≤ 140737488351232) :
    Calls Try.prog 4 #[.slice a0 len0 cap0, .slice a1 len1 cap1] w fun e w' => e = .returned (.bool true) ∧ Below w.heap.size w w' := by
  obtain ⟨l0, rfl, hr0, hm0, hw0, hc0⟩ := ReadsInt.ofRowC w0
  obtain ⟨l1, rfl, hr1, hm1, hw1, hc1⟩ := ReadsInt.ofRowC w1
  obtain ⟨k, h⟩ := P l0 l1 hm0 y0 hw0 hm1 y1 hw1
  refine (ramekinlaw6_BitsApart.calls k _ _ l0 _ _ l1 true w (Kd.C_of_reads (d := (0 : Int)) (h1 := fun _ => rfl) hr0) hc0 (Kd.C_of_reads (d := (0 : Int)) (h1 := fun _ => rfl) hr1) hc1 h).mono ?_
  rintro e w' ⟨rfl, hd⟩
  exact ⟨rfl, hd⟩

end Go.Proofs.Ytnlbekdjepkhcaa.QD
