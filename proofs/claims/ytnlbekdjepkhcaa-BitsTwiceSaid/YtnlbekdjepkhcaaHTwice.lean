import Derived.Test.YtnlbekdjepkhcaaBtC
set_option linter.unusedSimpArgs false
set_option linter.unusedVariables false
namespace Go.Proofs.YtnlbekdjepkhcaaBM
open Go.RowKit Go.Proofs.YtnlbekdjepkhcaaW.PrintWords Go.Proofs.YtnlbekdjepkhcaaW.PrintLast Go.Proofs.YtnlbekdjepkhcaaW.PrintMore Go.Proofs.YtnlbekdjepkhcaaG Ram
attribute [local go_sem] max2_int min2_int max_two min_two max_three min_three max_four min_four
set_option maxHeartbeats 8000000 in
set_option maxRecDepth 100000 in
theorem twice_calls (A0 : Option Addr) (c0 : Nat) (l0 : List Int) (A1 : Option Addr) (c1 : Nat) (l1 : List Int) (a2 a3 : Int) (w : World) (hr0 : Kd.C (Kd.int .u8) w A0 l0.length l0) (hc0 : l0.length ≤ c0) (hr1 : Kd.C (Kd.int .u8) w A1 l1.length l1) (hc1 : l1.length ≤ c1)
    (b0 : bytesB l0 = true) (b1 : bytesB l1 = true) (b2 : bytesB [a2] = true) (b3 : bytesB [a3] = true) (k5 k : Nat) (hk5 : k5 = min l0.length l1.length) (hk : k = min k5 60)
    (H1 : mixI (mixI (l0.take k) (l1.take k) [a2]) (l1.take k) [a2] = mixI (l0.take k) (l1.take k) [a2])
    (H2 : mixI (mixI (l0.take k) (l1.take k) [a2]) (l1.take k) [a3] = mixI (l0.take k) (l1.take k) [Go.bits .or .u8 a2 a3])
    (b4 : bytesB [Go.bits .or .u8 a2 a3] = true) :
    Calls Try.prog 8 #[.slice A0 l0.length c0, .slice A1 l1.length c1, .int .u8 a2, .int .u8 a3] w fun e w' => e = .returned (.bool true) ∧ Below w.heap.size w w' := by
  have hji5_ : (if (l1.length : Int) < (l0.length : Int) then (l1.length : Int) else (l0.length : Int)) = (k5 : Int) := by split <;> omega
  have hji5_n : (if l1.length < l0.length then (l1.length : Int) else (l0.length : Int)) = (k5 : Int) := by split <;> omega
  have hji6_ : (if (60 : Int) < (k5 : Int) then 60 else (k5 : Int)) = (k : Int) := by split <;> omega
  have hl0 : k ≤ l0.length := by omega
  have hl1 : k ≤ l1.length := by omega
  have hx : (l0.take k).length = k := by rw [List.length_take]; omega
  have hy : (l1.take k).length = k := by rw [List.length_take]; omega
  have HX := Aside0.mk (And.intro H1 H2)
  have HY := Aside0.mk (And.intro (And.intro hl0 hl1) (And.intro hx hy))
  clear H1 H2 hl0 hl1 hx hy hk hk5
  have HR0 := Aside0.mk hr0
  have HR1 := Aside0.mk hr1
  have HC0 := Aside0.mk hc0
  have HC1 := Aside0.mk hc1
  clear hr0 hr1 hc0 hc1
  have HB := Aside0.mk (Below.refl w.heap.size w)
  go_enter Try.func8, Try.ntmps8
  go_wp2_with (first | ((with_reducible refine gate_callee (f := 18) rfl ?_); refine goesL_ (some 13) rfl rfl Try.func18 (by kernel_rfl) rfl #[] rfl (by (try simp only [List.map_toArray, List.map_cons, List.map_nil]); first | done | rfl) ?_; (refine (known_g _).mono ?_); rintro e w1 ⟨u_, rfl, hu_, hb⟩; obtain rfl : u_ = .bool true := hu_; refine ⟨_, rfl, ?_⟩))
  have s0 : (Fact.seq (Kd.int .u8) l0).p (.slice A0 l0.length c0) w1 := ⟨_, _, rfl, HC0.out, Kd.C_below HR0.out hb⟩
  have s1 : (Fact.seq (Kd.int .u8) l1).p (.slice A1 l1.length c1) w1 := ⟨_, _, rfl, HC1.out, Kd.C_below HR1.out hb⟩
  have G1 := Aside0.mk hb
  clear hb
  refine grow_at 8 [(0, 20), (1, 21), (2, 22), (3, 23), (4, 24), (5, 25), (6, 10), (7, 11)] (fun i => [Fact.seq (Kd.int .u8) l0, Fact.is (.int .i64 (k : Int)), Fact.seq (Kd.int .u8) (l0.take k), Fact.seq (Kd.int .u8) l1, Fact.is (.int .i64 (k : Int)), Fact.seq (Kd.int .u8) (l1.take k), Fact.seq (Kd.int .u8) (l0.take k), Fact.seq (Kd.int .u8) (l1.take k)].getD i Fact.any) ?_ [0, 1, 2, 3, 4, 5, 6, 7] (by kernel_rfl) (B := [0, 0, 3, 0, 0, 24, 7, 127]) rfl (by kernel_rfl) (by kernel_rfl) (by kernel_rfl) (by kernel_rfl) rfl ?_ ?_ ?_
  rotate_left
  · intro v
    simp only [filled, Act.put, List.setIfInBounds_toArray, List.set_cons_zero, List.set_cons_succ]
    rfl
  rotate_left
  rotate_right
  · skip
    refine gat_cons ?_ ?_
    · intro v w' hg hd
      clear hd
      refine ⟨_, rfl, fun K hK => ?_⟩
      exact value_ (w1 := w') (v := (.slice A0 l0.length c0)) rfl rfl rfl (hK.out _ _ ((Fact.seq (Kd.int .u8) l0).mono s0 hg) (Grew.refl _))
    refine gat_cons ?_ ?_
    · intro v w' hg hd
      clear hd
      refine ⟨_, rfl, fun K hK => ?_⟩
      exact value_ (w1 := w') (v := (.int .i64 (k : Int))) rfl rfl rfl (hK.out _ _ rfl (Grew.refl _))
    refine gat_cons ?_ ?_
    · intro v w' hg hd
      have h0 : (Fact.seq (Kd.int .u8) l0).p (v 0) w' := hd 0 (by kernel_rfl)
      have h1 : v 1 = .int .i64 (k : Int) := hd 1 (by kernel_rfl)
      clear hd
      refine ⟨_, rfl, fun K hK => ?_⟩
      obtain ⟨u', hrun, hu'⟩ := take_g (u := v 0) h0 (HY.out.1.1)
      have e1_ : v 1 = _ := h1
      refine value_ (w1 := w') (v := u') rfl rfl ?_ (hK.out _ _ hu' (Grew.refl _))
      clear hK
      go_simp
      (try rfl)
    refine gat_cons ?_ ?_
    · intro v w' hg hd
      clear hd
      refine ⟨_, rfl, fun K hK => ?_⟩
      exact value_ (w1 := w') (v := (.slice A1 l1.length c1)) rfl rfl rfl (hK.out _ _ ((Fact.seq (Kd.int .u8) l1).mono s1 hg) (Grew.refl _))
    refine gat_cons ?_ ?_
    · intro v w' hg hd
      clear hd
      refine ⟨_, rfl, fun K hK => ?_⟩
      exact value_ (w1 := w') (v := (.int .i64 (k : Int))) rfl rfl rfl (hK.out _ _ rfl (Grew.refl _))
    refine gat_cons ?_ ?_
    · intro v w' hg hd
      have h3 : (Fact.seq (Kd.int .u8) l1).p (v 3) w' := hd 3 (by kernel_rfl)
      have h4 : v 4 = .int .i64 (k : Int) := hd 4 (by kernel_rfl)
      clear hd
      refine ⟨_, rfl, fun K hK => ?_⟩
      obtain ⟨u', hrun, hu'⟩ := take_g (u := v 3) h3 (HY.out.1.2)
      have e1_ : v 4 = _ := h4
      refine value_ (w1 := w') (v := u') rfl rfl ?_ (hK.out _ _ hu' (Grew.refl _))
      clear hK
      go_simp
      (try rfl)
    refine gat_cons ?_ ?_
    · intro v w' hg hd
      have h2 : (Fact.seq (Kd.int .u8) (l0.take k)).p (v 2) w' := hd 2 (by kernel_rfl)
      clear hd
      refine ⟨_, rfl, fun K hK => ?_⟩
      exact value_ (w1 := w') (v := v 2) rfl rfl rfl (hK.out _ _ h2 (Grew.refl _))
    refine gat_cons ?_ ?_
    · intro v w' hg hd
      have h5 : (Fact.seq (Kd.int .u8) (l1.take k)).p (v 5) w' := hd 5 (by kernel_rfl)
      clear hd
      refine ⟨_, rfl, fun K hK => ?_⟩
      exact value_ (w1 := w') (v := v 5) rfl rfl rfl (hK.out _ _ h5 (Grew.refl _))
    exact gat_nil
  intro v w2 hg hd
  have h10 : (Fact.seq (Kd.int .u8) (l0.take k)).p (v 6) w2 := hd 6 (by decide)
  have h11 : (Fact.seq (Kd.int .u8) (l1.take k)).p (v 7) w2 := hd 7 (by decide)
  clear hd
  generalize v 6 = u10 at h10 ⊢
  generalize v 7 = u11 at h11 ⊢
  have G2 := Aside0.mk (G1.out.step hg)
  clear G1 hg s0 s1
  rename_i K_ hK_
  refine hK_ _ _ ?_
  clear hK_
  refine wp_seq ?_
  refine grow_plain_at 6 [(0, 26), (1, 27), (2, 28), (3, 29), (4, 30), (5, 12)] (fun i => [Fact.seq (Kd.int .u8) (l0.take k), Fact.seq (Kd.int .u8) (l1.take k), Fact.is (.int .u8 a2), Fact.seq (Kd.int .u8) [a2], Fact.seq (Kd.int .u8) (mixI (l0.take k) (l1.take k) [a2]), Fact.seq (Kd.int .u8) (mixI (l0.take k) (l1.take k) [a2])].getD i Fact.any) ?_ [0, 1, 2, 3, 4, 5] (B := [0, 0, 0, 4, 15, 31]) (by kernel_rfl) (by kernel_rfl) (by kernel_rfl) rfl ?_ ?_ ?_
  rotate_left
  · intro v
    simp only [filled, Act.put, List.setIfInBounds_toArray, List.set_cons_zero, List.set_cons_succ]
    rfl
  rotate_left
  rotate_right
  · skip
    refine gat_cons ?_ ?_
    · intro v w' hg hd
      clear hd
      refine ⟨_, rfl, fun K hK => ?_⟩
      exact value_ (w1 := w') (v := (u10)) rfl rfl rfl (hK.out _ _ ((Fact.seq (Kd.int .u8) (l0.take k)).mono h10 hg) (Grew.refl _))
    refine gat_cons ?_ ?_
    · intro v w' hg hd
      clear hd
      refine ⟨_, rfl, fun K hK => ?_⟩
      exact value_ (w1 := w') (v := (u11)) rfl rfl rfl (hK.out _ _ ((Fact.seq (Kd.int .u8) (l1.take k)).mono h11 hg) (Grew.refl _))
    refine gat_cons ?_ ?_
    · intro v w' hg hd
      clear hd
      refine ⟨_, rfl, fun K hK => ?_⟩
      exact value_ (w1 := w') (v := (.int .u8 a2)) rfl rfl rfl (hK.out _ _ rfl (Grew.refl _))
    refine gat_cons ?_ ?_
    · intro v w' hg hd
      have h2 : v 2 = .int .u8 a2 := hd 2 (by kernel_rfl)
      clear hd
      refine ⟨_, rfl, fun K hK => ?_⟩
      refine Kd.R_lit_step (Kd.int .u8) w'.heap.size 5 rfl (N := 29) rfl (xs := ([a2] : List Int)) (inner := [(.int .u8 (a2))]) (ok := fun _ => True) (okp := fun _ => True) ?_ (Reps.one (show Kd.M (Kd.int .u8) _ _ _ (a2) [(.int .u8 (a2))] from rfl) (Reps.none _ _)) (fun _ _ => trivial) trivial (Below.refl _ _) (Nat.le_refl _) (by simp) ?_
      · clear hK
        go_simp
        (try rfl)
      · intro v1 w1 hR hb _ _
        exact hK.out _ _ (seq_of_R hR) hb
    refine gat_cons ?_ ?_
    · intro v w' hg hd
      have h0 : (Fact.seq (Kd.int .u8) (l0.take k)).p (v 0) w' := hd 0 (by kernel_rfl)
      have h1 : (Fact.seq (Kd.int .u8) (l1.take k)).p (v 1) w' := hd 1 (by kernel_rfl)
      have h3 : (Fact.seq (Kd.int .u8) [a2]).p (v 3) w' := hd 3 (by kernel_rfl)
      clear hd
      refine ⟨_, rfl, fun K hK => ?_⟩
      refine goes_ Try.func22 (by kernel_rfl) rfl #[v 0, v 1, v 3] rfl rfl rfl (by (try simp only [List.map_toArray, List.map_cons, List.map_nil]); first | done | rfl) ?_
      refine (mix_g h0 h1 h3 (bytes_take b0 k) (bytes_take b1 k) b2 (by rw [HY.out.2.1]; omega) (by simp)).mono ?_
      rintro e w'' ⟨u, rfl, hu, hb⟩
      exact ⟨_, rfl, hK.out _ _ hu hb⟩
    refine gat_cons ?_ ?_
    · intro v w' hg hd
      have h4 : (Fact.seq (Kd.int .u8) (mixI (l0.take k) (l1.take k) [a2])).p (v 4) w' := hd 4 (by kernel_rfl)
      clear hd
      refine ⟨_, rfl, fun K hK => ?_⟩
      exact value_ (w1 := w') (v := v 4) rfl rfl rfl (hK.out _ _ h4 (Grew.refl _))
    exact gat_nil
  intro v w3 hg hd
  have h12 : (Fact.seq (Kd.int .u8) (mixI (l0.take k) (l1.take k) [a2])).p (v 5) w3 := hd 5 (by decide)
  clear hd
  generalize v 5 = u12 at h12 ⊢
  have G3 := Aside0.mk (G2.out.step hg)
  replace h10 := (Fact.seq (Kd.int .u8) (l0.take k)).mono h10 hg
  replace h11 := (Fact.seq (Kd.int .u8) (l1.take k)).mono h11 hg
  clear G2 hg
  refine wp_seq ?_
  have m1 := mixI_length [a2] (HY.out.2.1.trans HY.out.2.2.symm)
  have m2 := mixI_bytes [a2] (bytes_take b0 k) (bytes_take b1 k)
  rw [HY.out.2.1] at m1
  have MM := Aside0.mk (And.intro m1 m2)
  clear m1 m2
  refine grow_at 33 [(0, 31), (1, 32), (2, 33), (3, 34), (4, 35), (5, 36), (6, 37), (7, 38), (8, 39), (9, 40), (10, 41), (11, 42), (12, 43), (13, 44), (14, 45), (15, 46), (16, 47), (17, 48), (18, 49), (19, 50), (20, 51), (21, 52), (22, 53), (23, 54), (24, 55), (25, 56), (26, 57), (27, 58), (28, 59), (29, 60), (30, 61), (31, 62), (32, 8)] (fun i => [Fact.seq (Kd.int .u8) (mixI (l0.take k) (l1.take k) [a2]), Fact.is (.int .i64 ((mixI (l0.take k) (l1.take k) [a2]).length : Int)), Fact.is (.int .i64 (k : Int)), Fact.is (.bool true), Fact.is (.bool true), Fact.seq (Kd.int .u8) (mixI (l0.take k) (l1.take k) [a2]), Fact.seq (Kd.int .u8) (l1.take k), Fact.is (.int .u8 a2), Fact.seq (Kd.int .u8) [a2], Fact.seq (Kd.int .u8) (mixI (mixI (l0.take k) (l1.take k) [a2]) (l1.take k) [a2]), Fact.is (.string (strOfNums (mixI (mixI (l0.take k) (l1.take k) [a2]) (l1.take k) [a2]))), Fact.seq (Kd.int .u8) (mixI (l0.take k) (l1.take k) [a2]), Fact.is (.string (strOfNums (mixI (l0.take k) (l1.take k) [a2]))), Fact.is (.bool true), Fact.is (.bool true), Fact.is (.bool true), Fact.seq (Kd.int .u8) (mixI (l0.take k) (l1.take k) [a2]), Fact.seq (Kd.int .u8) (l1.take k), Fact.is (.int .u8 a3), Fact.seq (Kd.int .u8) [a3], Fact.seq (Kd.int .u8) (mixI (mixI (l0.take k) (l1.take k) [a2]) (l1.take k) [a3]), Fact.is (.string (strOfNums (mixI (mixI (l0.take k) (l1.take k) [a2]) (l1.take k) [a3]))), Fact.seq (Kd.int .u8) (l0.take k), Fact.seq (Kd.int .u8) (l1.take k), Fact.is (.int .u8 a2), Fact.is (.int .u8 a3), Fact.is (.int .u8 (Go.bits .or .u8 a2 a3)), Fact.seq (Kd.int .u8) [Go.bits .or .u8 a2 a3], Fact.seq (Kd.int .u8) (mixI (l0.take k) (l1.take k) [Go.bits .or .u8 a2 a3]), Fact.is (.string (strOfNums (mixI (l0.take k) (l1.take k) [Go.bits .or .u8 a2 a3]))), Fact.is (.bool true), Fact.is (.bool true), Fact.is (.bool true)].getD i Fact.any) ?_ [0, 1, 2, 3, 4, 5, 6, 7, 8, 9, 10, 11, 12, 13, 14, 15, 16, 17, 18, 19, 20, 21, 22, 23, 24, 25, 26, 27, 28, 29, 30, 31, 32] (by kernel_rfl) (B := [0, 1, 0, 7, 15, 31, 31, 31, 159, 511, 1023, 31, 2079, 8191, 16383, 32767, 65535, 65535, 65535, 327679, 1048575, 2097151, 65535, 65535, 65535, 65535, 50397183, 117506047, 266338303, 534773759, 1073741823, 2147483647, 4294967295]) rfl (by kernel_rfl) (by kernel_rfl) (by kernel_rfl) (by kernel_rfl) rfl ?_ ?_ ?_
  rotate_left
  · intro v
    simp only [filled, Act.put, List.setIfInBounds_toArray, List.set_cons_zero, List.set_cons_succ]
    rfl
  rotate_left
  rotate_right
  · skip
    refine gat_cons ?_ ?_
    · intro v w' hg hd
      clear hd
      refine ⟨_, rfl, fun K hK => ?_⟩
      exact value_ (w1 := w') (v := (u12)) rfl rfl rfl (hK.out _ _ ((Fact.seq (Kd.int .u8) (mixI (l0.take k) (l1.take k) [a2])).mono h12 hg) (Grew.refl _))
    refine gat_cons ?_ ?_
    · intro v w' hg hd
      have h0 : (Fact.seq (Kd.int .u8) (mixI (l0.take k) (l1.take k) [a2])).p (v 0) w' := hd 0 (by kernel_rfl)
      clear hd
      refine ⟨_, rfl, fun K hK => ?_⟩
      obtain ⟨A_, c_, e_, _, _⟩ : (Fact.seq (Kd.int .u8) (mixI (l0.take k) (l1.take k) [a2])).p (v 0) w' := h0
      refine value_ (w1 := w') (v := .int .i64 ((mixI (l0.take k) (l1.take k) [a2]).length : Int)) rfl rfl ?_ (hK.out _ _ rfl (Grew.refl _))
      clear hK
      go_simp
      (try rfl)
    refine gat_cons ?_ ?_
    · intro v w' hg hd
      clear hd
      refine ⟨_, rfl, fun K hK => ?_⟩
      exact value_ (w1 := w') (v := (.int .i64 (k : Int))) rfl rfl rfl (hK.out _ _ rfl (Grew.refl _))
    refine gat_cons ?_ ?_
    · intro v w' hg hd
      have h1 : v 1 = .int .i64 ((mixI (l0.take k) (l1.take k) [a2]).length : Int) := hd 1 (by kernel_rfl)
      have h2 : v 2 = .int .i64 (k : Int) := hd 2 (by kernel_rfl)
      clear hd
      refine ⟨_, rfl, fun K hK => ?_⟩
      refine value_ (w1 := w') (v := .bool true) rfl rfl ?_ (hK.out _ _ rfl (Grew.refl _))
      clear hK
      go_simp
      (try (simp [MM.out.1]))
    refine gat_cons ?_ ?_
    · intro v w' hg hd
      have h3 : v 3 = .bool true := hd 3 (by kernel_rfl)
      clear hd
      refine ⟨_, rfl, fun K hK => ?_⟩
      exact value_ (w1 := w') (v := v 3) rfl rfl rfl (hK.out _ _ h3 (Grew.refl _))
    refine gat_cons ?_ ?_
    · intro v w' hg hd
      have h4 : v 4 = .bool true := hd 4 (by kernel_rfl)
      clear hd
      refine ⟨_, rfl, fun K hK => ?_⟩
      exact value_ (w1 := w') (v := (u12)) (wanted_on rfl rfl rfl (by show some (v 4) = _; rw [h4])) rfl rfl (hK.out _ _ ((Fact.seq (Kd.int .u8) (mixI (l0.take k) (l1.take k) [a2])).mono h12 hg) (Grew.refl _))
    refine gat_cons ?_ ?_
    · intro v w' hg hd
      have h4 : v 4 = .bool true := hd 4 (by kernel_rfl)
      clear hd
      refine ⟨_, rfl, fun K hK => ?_⟩
      exact value_ (w1 := w') (v := (u11)) (wanted_on rfl rfl rfl (by show some (v 4) = _; rw [h4])) rfl rfl (hK.out _ _ ((Fact.seq (Kd.int .u8) (l1.take k)).mono h11 hg) (Grew.refl _))
    refine gat_cons ?_ ?_
    · intro v w' hg hd
      have h4 : v 4 = .bool true := hd 4 (by kernel_rfl)
      clear hd
      refine ⟨_, rfl, fun K hK => ?_⟩
      exact value_ (w1 := w') (v := (.int .u8 a2)) (wanted_on rfl rfl rfl (by show some (v 4) = _; rw [h4])) rfl rfl (hK.out _ _ rfl (Grew.refl _))
    refine gat_cons ?_ ?_
    · intro v w' hg hd
      have h4 : v 4 = .bool true := hd 4 (by kernel_rfl)
      have h7 : v 7 = .int .u8 a2 := hd 7 (by kernel_rfl)
      clear hd
      refine ⟨_, rfl, fun K hK => ?_⟩
      refine Kd.R_lit_step (Kd.int .u8) w'.heap.size 5 (wanted_on rfl rfl rfl (by show some (v 4) = _; rw [h4])) (N := 39) rfl (xs := ([a2] : List Int)) (inner := [(.int .u8 (a2))]) (ok := fun _ => True) (okp := fun _ => True) ?_ (Reps.one (show Kd.M (Kd.int .u8) _ _ _ (a2) [(.int .u8 (a2))] from rfl) (Reps.none _ _)) (fun _ _ => trivial) trivial (Below.refl _ _) (Nat.le_refl _) (by simp) ?_
      · clear hK
        go_simp
        (try rfl)
      · intro v1 w1 hR hb _ _
        exact hK.out _ _ (seq_of_R hR) hb
    refine gat_cons ?_ ?_
    · intro v w' hg hd
      have h4 : v 4 = .bool true := hd 4 (by kernel_rfl)
      have h5 : (Fact.seq (Kd.int .u8) (mixI (l0.take k) (l1.take k) [a2])).p (v 5) w' := hd 5 (by kernel_rfl)
      have h6 : (Fact.seq (Kd.int .u8) (l1.take k)).p (v 6) w' := hd 6 (by kernel_rfl)
      have h8 : (Fact.seq (Kd.int .u8) [a2]).p (v 8) w' := hd 8 (by kernel_rfl)
      clear hd
      refine ⟨_, rfl, fun K hK => ?_⟩
      refine goes_ Try.func22 (by kernel_rfl) rfl #[v 5, v 6, v 8] (wanted_on rfl rfl rfl (by show some (v 4) = _; rw [h4])) rfl rfl (by (try simp only [List.map_toArray, List.map_cons, List.map_nil]); first | done | rfl) ?_
      refine (mix_g h5 h6 h8 MM.out.2 (bytes_take b1 k) b2 (by rw [MM.out.1]; omega) (by simp)).mono ?_
      rintro e w'' ⟨u, rfl, hu, hb⟩
      exact ⟨_, rfl, hK.out _ _ hu hb⟩
    refine gat_cons ?_ ?_
    · intro v w' hg hd
      have h4 : v 4 = .bool true := hd 4 (by kernel_rfl)
      have h9 : (Fact.seq (Kd.int .u8) (mixI (mixI (l0.take k) (l1.take k) [a2]) (l1.take k) [a2])).p (v 9) w' := hd 9 (by kernel_rfl)
      clear hd
      refine ⟨_, rfl, fun K hK => ?_⟩
      obtain ⟨A_, c_, e_, _, C_⟩ : (Fact.seq (Kd.int .u8) (mixI (mixI (l0.take k) (l1.take k) [a2]) (l1.take k) [a2])).p (v 9) w' := h9
      have hcv := Kd.C_string (P := Try.prog) (A := A_) (c := c_) Try.underlying28 Try.underlying5 Try.underlying9 C_
      refine value_ (w1 := w') (v := .string (strOfNums (mixI (mixI (l0.take k) (l1.take k) [a2]) (l1.take k) [a2]))) (wanted_on rfl rfl rfl (by show some (v 4) = _; rw [h4])) rfl ?_ (hK.out _ _ rfl (Grew.refl _))
      clear hK C_
      go_simp
      (try rfl)
    refine gat_cons ?_ ?_
    · intro v w' hg hd
      have h4 : v 4 = .bool true := hd 4 (by kernel_rfl)
      clear hd
      refine ⟨_, rfl, fun K hK => ?_⟩
      exact value_ (w1 := w') (v := (u12)) (wanted_on rfl rfl rfl (by show some (v 4) = _; rw [h4])) rfl rfl (hK.out _ _ ((Fact.seq (Kd.int .u8) (mixI (l0.take k) (l1.take k) [a2])).mono h12 hg) (Grew.refl _))
    refine gat_cons ?_ ?_
    · intro v w' hg hd
      have h4 : v 4 = .bool true := hd 4 (by kernel_rfl)
      have h11 : (Fact.seq (Kd.int .u8) (mixI (l0.take k) (l1.take k) [a2])).p (v 11) w' := hd 11 (by kernel_rfl)
      clear hd
      refine ⟨_, rfl, fun K hK => ?_⟩
      obtain ⟨A_, c_, e_, _, C_⟩ : (Fact.seq (Kd.int .u8) (mixI (l0.take k) (l1.take k) [a2])).p (v 11) w' := h11
      have hcv := Kd.C_string (P := Try.prog) (A := A_) (c := c_) Try.underlying28 Try.underlying5 Try.underlying9 C_
      refine value_ (w1 := w') (v := .string (strOfNums (mixI (l0.take k) (l1.take k) [a2]))) (wanted_on rfl rfl rfl (by show some (v 4) = _; rw [h4])) rfl ?_ (hK.out _ _ rfl (Grew.refl _))
      clear hK C_
      go_simp
      (try rfl)
    refine gat_cons ?_ ?_
    · intro v w' hg hd
      have h4 : v 4 = .bool true := hd 4 (by kernel_rfl)
      have h10 : v 10 = .string (strOfNums (mixI (mixI (l0.take k) (l1.take k) [a2]) (l1.take k) [a2])) := hd 10 (by kernel_rfl)
      have h12 : v 12 = .string (strOfNums (mixI (l0.take k) (l1.take k) [a2])) := hd 12 (by kernel_rfl)
      clear hd
      refine ⟨_, rfl, fun K hK => ?_⟩
      refine value_ (w1 := w') (v := .bool true) (wanted_on rfl rfl rfl (by show some (v 4) = _; rw [h4])) rfl ?_ (hK.out _ _ rfl (Grew.refl _))
      clear hK
      go_simp
      (try (simp [HX.out.1]))
    refine gat_cons ?_ ?_
    · intro v w' hg hd
      have h4 : v 4 = .bool true := hd 4 (by kernel_rfl)
      have h13 : v 13 = .bool true := hd 13 (by kernel_rfl)
      clear hd
      refine ⟨_, rfl, fun K hK => ?_⟩
      refine value_ (w1 := w') (v := .bool true) rfl rfl ?_ (hK.out _ _ rfl (Grew.refl _))
      clear hK
      go_simp
      (try rfl)
    refine gat_cons ?_ ?_
    · intro v w' hg hd
      have h14 : v 14 = .bool true := hd 14 (by kernel_rfl)
      clear hd
      refine ⟨_, rfl, fun K hK => ?_⟩
      exact value_ (w1 := w') (v := v 14) rfl rfl rfl (hK.out _ _ h14 (Grew.refl _))
    refine gat_cons ?_ ?_
    · intro v w' hg hd
      have h15 : v 15 = .bool true := hd 15 (by kernel_rfl)
      clear hd
      refine ⟨_, rfl, fun K hK => ?_⟩
      exact value_ (w1 := w') (v := (u12)) (wanted_on rfl rfl rfl (by show some (v 15) = _; rw [h15])) rfl rfl (hK.out _ _ ((Fact.seq (Kd.int .u8) (mixI (l0.take k) (l1.take k) [a2])).mono h12 hg) (Grew.refl _))
    refine gat_cons ?_ ?_
    · intro v w' hg hd
      have h15 : v 15 = .bool true := hd 15 (by kernel_rfl)
      clear hd
      refine ⟨_, rfl, fun K hK => ?_⟩
      exact value_ (w1 := w') (v := (u11)) (wanted_on rfl rfl rfl (by show some (v 15) = _; rw [h15])) rfl rfl (hK.out _ _ ((Fact.seq (Kd.int .u8) (l1.take k)).mono h11 hg) (Grew.refl _))
    refine gat_cons ?_ ?_
    · intro v w' hg hd
      have h15 : v 15 = .bool true := hd 15 (by kernel_rfl)
      clear hd
      refine ⟨_, rfl, fun K hK => ?_⟩
      exact value_ (w1 := w') (v := (.int .u8 a3)) (wanted_on rfl rfl rfl (by show some (v 15) = _; rw [h15])) rfl rfl (hK.out _ _ rfl (Grew.refl _))
    refine gat_cons ?_ ?_
    · intro v w' hg hd
      have h15 : v 15 = .bool true := hd 15 (by kernel_rfl)
      have h18 : v 18 = .int .u8 a3 := hd 18 (by kernel_rfl)
      clear hd
      refine ⟨_, rfl, fun K hK => ?_⟩
      refine Kd.R_lit_step (Kd.int .u8) w'.heap.size 5 (wanted_on rfl rfl rfl (by show some (v 15) = _; rw [h15])) (N := 50) rfl (xs := ([a3] : List Int)) (inner := [(.int .u8 (a3))]) (ok := fun _ => True) (okp := fun _ => True) ?_ (Reps.one (show Kd.M (Kd.int .u8) _ _ _ (a3) [(.int .u8 (a3))] from rfl) (Reps.none _ _)) (fun _ _ => trivial) trivial (Below.refl _ _) (Nat.le_refl _) (by simp) ?_
      · clear hK
        go_simp
        (try rfl)
      · intro v1 w1 hR hb _ _
        exact hK.out _ _ (seq_of_R hR) hb
    refine gat_cons ?_ ?_
    · intro v w' hg hd
      have h15 : v 15 = .bool true := hd 15 (by kernel_rfl)
      have h16 : (Fact.seq (Kd.int .u8) (mixI (l0.take k) (l1.take k) [a2])).p (v 16) w' := hd 16 (by kernel_rfl)
      have h17 : (Fact.seq (Kd.int .u8) (l1.take k)).p (v 17) w' := hd 17 (by kernel_rfl)
      have h19 : (Fact.seq (Kd.int .u8) [a3]).p (v 19) w' := hd 19 (by kernel_rfl)
      clear hd
      refine ⟨_, rfl, fun K hK => ?_⟩
      refine goes_ Try.func22 (by kernel_rfl) rfl #[v 16, v 17, v 19] (wanted_on rfl rfl rfl (by show some (v 15) = _; rw [h15])) rfl rfl (by (try simp only [List.map_toArray, List.map_cons, List.map_nil]); first | done | rfl) ?_
      refine (mix_g h16 h17 h19 MM.out.2 (bytes_take b1 k) b3 (by rw [MM.out.1]; omega) (by simp)).mono ?_
      rintro e w'' ⟨u, rfl, hu, hb⟩
      exact ⟨_, rfl, hK.out _ _ hu hb⟩
    refine gat_cons ?_ ?_
    · intro v w' hg hd
      have h15 : v 15 = .bool true := hd 15 (by kernel_rfl)
      have h20 : (Fact.seq (Kd.int .u8) (mixI (mixI (l0.take k) (l1.take k) [a2]) (l1.take k) [a3])).p (v 20) w' := hd 20 (by kernel_rfl)
      clear hd
      refine ⟨_, rfl, fun K hK => ?_⟩
      obtain ⟨A_, c_, e_, _, C_⟩ : (Fact.seq (Kd.int .u8) (mixI (mixI (l0.take k) (l1.take k) [a2]) (l1.take k) [a3])).p (v 20) w' := h20
      have hcv := Kd.C_string (P := Try.prog) (A := A_) (c := c_) Try.underlying28 Try.underlying5 Try.underlying9 C_
      refine value_ (w1 := w') (v := .string (strOfNums (mixI (mixI (l0.take k) (l1.take k) [a2]) (l1.take k) [a3]))) (wanted_on rfl rfl rfl (by show some (v 15) = _; rw [h15])) rfl ?_ (hK.out _ _ rfl (Grew.refl _))
      clear hK C_
      go_simp
      (try rfl)
    refine gat_cons ?_ ?_
    · intro v w' hg hd
      have h15 : v 15 = .bool true := hd 15 (by kernel_rfl)
      clear hd
      refine ⟨_, rfl, fun K hK => ?_⟩
      exact value_ (w1 := w') (v := (u10)) (wanted_on rfl rfl rfl (by show some (v 15) = _; rw [h15])) rfl rfl (hK.out _ _ ((Fact.seq (Kd.int .u8) (l0.take k)).mono h10 hg) (Grew.refl _))
    refine gat_cons ?_ ?_
    · intro v w' hg hd
      have h15 : v 15 = .bool true := hd 15 (by kernel_rfl)
      clear hd
      refine ⟨_, rfl, fun K hK => ?_⟩
      exact value_ (w1 := w') (v := (u11)) (wanted_on rfl rfl rfl (by show some (v 15) = _; rw [h15])) rfl rfl (hK.out _ _ ((Fact.seq (Kd.int .u8) (l1.take k)).mono h11 hg) (Grew.refl _))
    refine gat_cons ?_ ?_
    · intro v w' hg hd
      have h15 : v 15 = .bool true := hd 15 (by kernel_rfl)
      clear hd
      refine ⟨_, rfl, fun K hK => ?_⟩
      exact value_ (w1 := w') (v := (.int .u8 a2)) (wanted_on rfl rfl rfl (by show some (v 15) = _; rw [h15])) rfl rfl (hK.out _ _ rfl (Grew.refl _))
    refine gat_cons ?_ ?_
    · intro v w' hg hd
      have h15 : v 15 = .bool true := hd 15 (by kernel_rfl)
      clear hd
      refine ⟨_, rfl, fun K hK => ?_⟩
      exact value_ (w1 := w') (v := (.int .u8 a3)) (wanted_on rfl rfl rfl (by show some (v 15) = _; rw [h15])) rfl rfl (hK.out _ _ rfl (Grew.refl _))
    refine gat_cons ?_ ?_
    · intro v w' hg hd
      have h15 : v 15 = .bool true := hd 15 (by kernel_rfl)
      have h24 : v 24 = .int .u8 a2 := hd 24 (by kernel_rfl)
      have h25 : v 25 = .int .u8 a3 := hd 25 (by kernel_rfl)
      clear hd
      refine ⟨_, rfl, fun K hK => ?_⟩
      refine value_ (w1 := w') (v := .int .u8 (Go.bits .or .u8 a2 a3)) (wanted_on rfl rfl rfl (by show some (v 15) = _; rw [h15])) rfl ?_ (hK.out _ _ rfl (Grew.refl _))
      clear hK
      go_simp
      (try (rfl))
    refine gat_cons ?_ ?_
    · intro v w' hg hd
      have h15 : v 15 = .bool true := hd 15 (by kernel_rfl)
      have h26 : v 26 = .int .u8 (Go.bits .or .u8 a2 a3) := hd 26 (by kernel_rfl)
      clear hd
      refine ⟨_, rfl, fun K hK => ?_⟩
      refine Kd.R_lit_step (Kd.int .u8) w'.heap.size 5 (wanted_on rfl rfl rfl (by show some (v 15) = _; rw [h15])) (N := 58) rfl (xs := ([Go.bits .or .u8 a2 a3] : List Int)) (inner := [(.int .u8 (Go.bits .or .u8 a2 a3))]) (ok := fun _ => True) (okp := fun _ => True) ?_ (Reps.one (show Kd.M (Kd.int .u8) _ _ _ (Go.bits .or .u8 a2 a3) [(.int .u8 (Go.bits .or .u8 a2 a3))] from rfl) (Reps.none _ _)) (fun _ _ => trivial) trivial (Below.refl _ _) (Nat.le_refl _) (by simp) ?_
      · clear hK
        go_simp
        (try rfl)
      · intro v1 w1 hR hb _ _
        exact hK.out _ _ (seq_of_R hR) hb
    refine gat_cons ?_ ?_
    · intro v w' hg hd
      have h15 : v 15 = .bool true := hd 15 (by kernel_rfl)
      have h22 : (Fact.seq (Kd.int .u8) (l0.take k)).p (v 22) w' := hd 22 (by kernel_rfl)
      have h23 : (Fact.seq (Kd.int .u8) (l1.take k)).p (v 23) w' := hd 23 (by kernel_rfl)
      have h27 : (Fact.seq (Kd.int .u8) [Go.bits .or .u8 a2 a3]).p (v 27) w' := hd 27 (by kernel_rfl)
      clear hd
      refine ⟨_, rfl, fun K hK => ?_⟩
      refine goes_ Try.func22 (by kernel_rfl) rfl #[v 22, v 23, v 27] (wanted_on rfl rfl rfl (by show some (v 15) = _; rw [h15])) rfl rfl (by (try simp only [List.map_toArray, List.map_cons, List.map_nil]); first | done | rfl) ?_
      refine (mix_g h22 h23 h27 (bytes_take b0 k) (bytes_take b1 k) b4 (by rw [HY.out.2.1]; omega) (by simp)).mono ?_
      rintro e w'' ⟨u, rfl, hu, hb⟩
      exact ⟨_, rfl, hK.out _ _ hu hb⟩
    refine gat_cons ?_ ?_
    · intro v w' hg hd
      have h15 : v 15 = .bool true := hd 15 (by kernel_rfl)
      have h28 : (Fact.seq (Kd.int .u8) (mixI (l0.take k) (l1.take k) [Go.bits .or .u8 a2 a3])).p (v 28) w' := hd 28 (by kernel_rfl)
      clear hd
      refine ⟨_, rfl, fun K hK => ?_⟩
      obtain ⟨A_, c_, e_, _, C_⟩ : (Fact.seq (Kd.int .u8) (mixI (l0.take k) (l1.take k) [Go.bits .or .u8 a2 a3])).p (v 28) w' := h28
      have hcv := Kd.C_string (P := Try.prog) (A := A_) (c := c_) Try.underlying28 Try.underlying5 Try.underlying9 C_
      refine value_ (w1 := w') (v := .string (strOfNums (mixI (l0.take k) (l1.take k) [Go.bits .or .u8 a2 a3]))) (wanted_on rfl rfl rfl (by show some (v 15) = _; rw [h15])) rfl ?_ (hK.out _ _ rfl (Grew.refl _))
      clear hK C_
      go_simp
      (try rfl)
    refine gat_cons ?_ ?_
    · intro v w' hg hd
      have h15 : v 15 = .bool true := hd 15 (by kernel_rfl)
      have h21 : v 21 = .string (strOfNums (mixI (mixI (l0.take k) (l1.take k) [a2]) (l1.take k) [a3])) := hd 21 (by kernel_rfl)
      have h29 : v 29 = .string (strOfNums (mixI (l0.take k) (l1.take k) [Go.bits .or .u8 a2 a3])) := hd 29 (by kernel_rfl)
      clear hd
      refine ⟨_, rfl, fun K hK => ?_⟩
      refine value_ (w1 := w') (v := .bool true) (wanted_on rfl rfl rfl (by show some (v 15) = _; rw [h15])) rfl ?_ (hK.out _ _ rfl (Grew.refl _))
      clear hK
      go_simp
      (try (simp [HX.out.2]))
    refine gat_cons ?_ ?_
    · intro v w' hg hd
      have h15 : v 15 = .bool true := hd 15 (by kernel_rfl)
      have h30 : v 30 = .bool true := hd 30 (by kernel_rfl)
      clear hd
      refine ⟨_, rfl, fun K hK => ?_⟩
      refine value_ (w1 := w') (v := .bool true) rfl rfl ?_ (hK.out _ _ rfl (Grew.refl _))
      clear hK
      go_simp
      (try rfl)
    refine gat_cons ?_ ?_
    · intro v w' hg hd
      have h31 : v 31 = .bool true := hd 31 (by kernel_rfl)
      clear hd
      refine ⟨_, rfl, fun K hK => ?_⟩
      exact value_ (w1 := w') (v := v 31) rfl rfl rfl (hK.out _ _ h31 (Grew.refl _))
    exact gat_nil
  intro v w4 hg hd
  have h8 : v 32 = .bool true := hd 32 (by decide)
  clear hd
  generalize v 32 = u8 at h8 ⊢
  subst h8
  have G4 := G3.out.step hg
  clear G3 hg
  try go_wp2
  go_ret
  exact ⟨rfl, G4⟩

theorem mix_twice {a b : List Nat} {m n : Nat} (ha : Bytes a) (hb : Bytes b) (h : a.length = b.length) (hm : m < 256) (hn : n < 256) : mixL (mixL a b [m]) b [n] = mixL a b [m ||| n] := by
  have l1 := mixL_length [m] h
  have hM : Bytes [m] := by intro x hx; rw [List.mem_singleton] at hx; omega
  have hN : Bytes [n] := by intro x hx; rw [List.mem_singleton] at hx; omega
  have hO : Bytes [m ||| n] := by intro x hx; rw [List.mem_singleton] at hx; have := Nat.or_lt_two_pow (n := 8) hm hn; omega
  refine bytes_ext (mixL_bytes _ (mixL_bytes _ ha hb) hb) (mixL_bytes _ ha hb) (by rw [mixL_length _ (l1.trans h), l1, mixL_length _ h]) (fun q hq => ?_)
  rw [mixL_length _ (l1.trans h), l1] at hq
  rw [bit_mixL hN (l1.trans h) q (by rw [l1]; exact hq), bit_mixL hM h q hq, bit_mixL hO h q hq, maskAt_one, maskAt_one, maskAt_one, Nat.testBit_or]
  cases m.testBit (q % 8) <;> cases n.testBit (q % 8) <;> rfl
theorem twice_total (A0 : Option Addr) (c0 : Nat) (l0 : List Int) (A1 : Option Addr) (c1 : Nat) (l1 : List Int) (a2 a3 : Int) (w : World) (hr0 : Kd.C (Kd.int .u8) w A0 l0.length l0) (hc0 : l0.length ≤ c0) (hr1 : Kd.C (Kd.int .u8) w A1 l1.length l1) (hc1 : l1.length ≤ c1)
    (b0 : bytesB l0 = true) (b1 : bytesB l1 = true) (h2 : 0 ≤ a2 ∧ a2 < 256) (h3 : 0 ≤ a3 ∧ a3 < 256) :
    Calls Try.prog 8 #[.slice A0 l0.length c0, .slice A1 l1.length c1, .int .u8 a2, .int .u8 a3] w fun e w' => e = .returned (.bool true) ∧ Below w.heap.size w w' := by
  obtain ⟨m, rfl⟩ := Int.eq_ofNat_of_zero_le h2.1
  obtain ⟨n, rfl⟩ := Int.eq_ofNat_of_zero_le h3.1
  have hor : Go.bits .or .u8 (m : Int) (n : Int) = ((m ||| n : Nat) : Int) := or_u8 (by omega) (by omega)
  have hlt := Nat.or_lt_two_pow (n := 8) (x := m) (y := n) (by omega) (by omega)
  have hT : ∀ k, k ≤ l0.length → k ≤ l1.length → ∀ x y : Nat, x < 256 → y < 256 → mixI (mixI (l0.take k) (l1.take k) [(x : Int)]) (l1.take k) [(y : Int)] = mixI (l0.take k) (l1.take k) [((x ||| y : Nat) : Int)] := by
    intro k h1 h2 x y hx hy
    unfold mixI
    rw [nat_int, nat_one, nat_one, nat_one, mix_twice (nat_mem_lt (bytes_take b0 k)) (nat_mem_lt (bytes_take b1 k)) (by rw [nat_length, nat_length, List.length_take, List.length_take]; omega) hx hy]
  refine twice_calls A0 c0 l0 A1 c1 l1 m n w hr0 hc0 hr1 hc1 b0 b1 (one_bytes h2.1 h2.2) (one_bytes h3.1 h3.2) _ _ rfl rfl ?_ ?_ ?_
  · rw [hT _ (by omega) (by omega) m m (by omega) (by omega), Nat.or_self]
  · rw [hT _ (by omega) (by omega) m n (by omega) (by omega), hor]
  · rw [hor]; exact one_bytes (by omega) (by omega)
end Go.Proofs.YtnlbekdjepkhcaaBM
