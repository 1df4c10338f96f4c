import Derived.Test.YtnlbekdjepkhcaaBtC
set_option linter.unusedSimpArgs false
set_option linter.unusedVariables false
namespace Go.Proofs.YtnlbekdjepkhcaaBM
open Go.RowKit Go.Proofs.YtnlbekdjepkhcaaW.PrintWords Go.Proofs.YtnlbekdjepkhcaaW.PrintLast Go.Proofs.YtnlbekdjepkhcaaW.PrintMore Go.Proofs.YtnlbekdjepkhcaaG Ram
attribute [local go_sem] max2_int min2_int max_two min_two max_three min_three max_four min_four
set_option maxHeartbeats 8000000 in
set_option maxRecDepth 100000 in
theorem turn_calls (A0 : Option Addr) (c0 : Nat) (l0 : List Int) (A1 : Option Addr) (c1 : Nat) (l1 : List Int) (w : World) (hr0 : Kd.C (Kd.int .u8) w A0 l0.length l0) (hc0 : l0.length ≤ c0) (hr1 : Kd.C (Kd.int .u8) w A1 l1.length l1) (hc1 : l1.length ≤ c1)
    (b0 : bytesB l0 = true) (b1 : bytesB l1 = true) (k5 k : Nat) (hk5 : k5 = min l0.length l1.length) (hk : k = min k5 60)
    (H1 : flipI (l0.take k) (apartI (l0.take k) (l1.take k)) = l1.take k)
    (H2 : flipI (l1.take k) (apartI (l0.take k) (l1.take k)) = l0.take k)
    (H3 : apartI (l0.take k) (l0.take k) = []) (H4 : (apartI (l0.take k) (l1.take k)).length < 9000000000000000000) :
    Calls Try.prog 5 #[.slice A0 l0.length c0, .slice A1 l1.length c1] w fun e w' => e = .returned (.bool true) ∧ Below w.heap.size w w' := by
  have hji5_ : (if (l1.length : Int) < (l0.length : Int) then (l1.length : Int) else (l0.length : Int)) = (k5 : Int) := by split <;> omega
  have hji5_n : (if l1.length < l0.length then (l1.length : Int) else (l0.length : Int)) = (k5 : Int) := by split <;> omega
  have hji6_ : (if (60 : Int) < (k5 : Int) then 60 else (k5 : Int)) = (k : Int) := by split <;> omega
  have hl0 : k ≤ l0.length := by omega
  have hl1 : k ≤ l1.length := by omega
  have hx : (l0.take k).length = k := by rw [List.length_take]; omega
  have hy : (l1.take k).length = k := by rw [List.length_take]; omega
  have HY := Aside0.mk (And.intro (And.intro hl0 hl1) (And.intro hx hy))
  have HX := Aside0.mk (And.intro (And.intro H1 H2) (And.intro H3 H4))
  clear H1 H2 H3 H4 hl0 hl1 hx hy hk hk5
  have HR0 := Aside0.mk hr0
  have HR1 := Aside0.mk hr1
  have HC0 := Aside0.mk hc0
  have HC1 := Aside0.mk hc1
  clear hr0 hr1 hc0 hc1
  go_enter Try.func5, Try.ntmps5
  go_wp2_with (first | ((with_reducible refine gate_callee (f := 18) rfl ?_); refine goesL_ (some 9) rfl rfl Try.func18 (by kernel_rfl) rfl #[] rfl (by (try simp only [List.map_toArray, List.map_cons, List.map_nil]); first | done | rfl) ?_; (refine (known_g _).mono ?_); rintro e w1 ⟨u_, rfl, hu_, hb⟩; obtain rfl : u_ = .bool true := hu_; refine ⟨_, rfl, ?_⟩))
  have s0 : (Fact.seq (Kd.int .u8) l0).p (.slice A0 l0.length c0) w1 := ⟨_, _, rfl, HC0.out, Kd.C_below HR0.out hb⟩
  have s1 : (Fact.seq (Kd.int .u8) l1).p (.slice A1 l1.length c1) w1 := ⟨_, _, rfl, HC1.out, Kd.C_below HR1.out hb⟩
  have G1 := Aside0.mk hb
  clear hb
  refine grow_at 8 [(0, 16), (1, 17), (2, 18), (3, 19), (4, 20), (5, 21), (6, 6), (7, 7)] (fun i => [Fact.seq (Kd.int .u8) l0, Fact.is (.int .i64 (k : Int)), Fact.seq (Kd.int .u8) (l0.take k), Fact.seq (Kd.int .u8) l1, Fact.is (.int .i64 (k : Int)), Fact.seq (Kd.int .u8) (l1.take k), Fact.seq (Kd.int .u8) (l0.take k), Fact.seq (Kd.int .u8) (l1.take k)].getD i Fact.any) ?_ [0, 1, 2, 3, 4, 5, 6, 7] (by kernel_rfl) (B := [0, 0, 3, 0, 0, 24, 7, 127]) rfl (by kernel_rfl) (by kernel_rfl) (by kernel_rfl) (by kernel_rfl) rfl ?_ ?_ ?_
  rotate_left
  · intro v
    simp only [filled, Act.put, List.setIfInBounds_toArray, List.set_cons_zero, List.set_cons_succ]
    rfl
  rotate_left
  rotate_right
  · skip
    refine gat_cons ?_ ?_
    · intro v w' hg hd
      clear hd
      refine ⟨_, rfl, fun K hK => ?_⟩
      exact value_ (w1 := w') (v := (.slice A0 l0.length c0)) rfl rfl rfl (hK.out _ _ ((Fact.seq (Kd.int .u8) l0).mono s0 hg) (Grew.refl _))
    refine gat_cons ?_ ?_
    · intro v w' hg hd
      clear hd
      refine ⟨_, rfl, fun K hK => ?_⟩
      exact value_ (w1 := w') (v := (.int .i64 (k : Int))) rfl rfl rfl (hK.out _ _ rfl (Grew.refl _))
    refine gat_cons ?_ ?_
    · intro v w' hg hd
      have h0 : (Fact.seq (Kd.int .u8) l0).p (v 0) w' := hd 0 (by kernel_rfl)
      have h1 : v 1 = .int .i64 (k : Int) := hd 1 (by kernel_rfl)
      clear hd
      refine ⟨_, rfl, fun K hK => ?_⟩
      obtain ⟨u', hrun, hu'⟩ := take_g (u := v 0) h0 (HY.out.1.1)
      have e1_ : v 1 = _ := h1
      refine value_ (w1 := w') (v := u') rfl rfl ?_ (hK.out _ _ hu' (Grew.refl _))
      clear hK
      go_simp
      (try rfl)
    refine gat_cons ?_ ?_
    · intro v w' hg hd
      clear hd
      refine ⟨_, rfl, fun K hK => ?_⟩
      exact value_ (w1 := w') (v := (.slice A1 l1.length c1)) rfl rfl rfl (hK.out _ _ ((Fact.seq (Kd.int .u8) l1).mono s1 hg) (Grew.refl _))
    refine gat_cons ?_ ?_
    · intro v w' hg hd
      clear hd
      refine ⟨_, rfl, fun K hK => ?_⟩
      exact value_ (w1 := w') (v := (.int .i64 (k : Int))) rfl rfl rfl (hK.out _ _ rfl (Grew.refl _))
    refine gat_cons ?_ ?_
    · intro v w' hg hd
      have h3 : (Fact.seq (Kd.int .u8) l1).p (v 3) w' := hd 3 (by kernel_rfl)
      have h4 : v 4 = .int .i64 (k : Int) := hd 4 (by kernel_rfl)
      clear hd
      refine ⟨_, rfl, fun K hK => ?_⟩
      obtain ⟨u', hrun, hu'⟩ := take_g (u := v 3) h3 (HY.out.1.2)
      have e1_ : v 4 = _ := h4
      refine value_ (w1 := w') (v := u') rfl rfl ?_ (hK.out _ _ hu' (Grew.refl _))
      clear hK
      go_simp
      (try rfl)
    refine gat_cons ?_ ?_
    · intro v w' hg hd
      have h2 : (Fact.seq (Kd.int .u8) (l0.take k)).p (v 2) w' := hd 2 (by kernel_rfl)
      clear hd
      refine ⟨_, rfl, fun K hK => ?_⟩
      exact value_ (w1 := w') (v := v 2) rfl rfl rfl (hK.out _ _ h2 (Grew.refl _))
    refine gat_cons ?_ ?_
    · intro v w' hg hd
      have h5 : (Fact.seq (Kd.int .u8) (l1.take k)).p (v 5) w' := hd 5 (by kernel_rfl)
      clear hd
      refine ⟨_, rfl, fun K hK => ?_⟩
      exact value_ (w1 := w') (v := v 5) rfl rfl rfl (hK.out _ _ h5 (Grew.refl _))
    exact gat_nil
  intro v w2 hg hd
  have h6 : (Fact.seq (Kd.int .u8) (l0.take k)).p (v 6) w2 := hd 6 (by decide)
  have h7 : (Fact.seq (Kd.int .u8) (l1.take k)).p (v 7) w2 := hd 7 (by decide)
  clear hd
  generalize v 6 = u6 at h6 ⊢
  generalize v 7 = u7 at h7 ⊢
  have G2 := Aside0.mk (G1.out.step hg)
  clear G1 hg s0 s1
  rename_i K_ hK_
  refine hK_ _ _ ?_
  clear hK_
  refine wp_seq ?_
  refine grow_plain_at 4 [(0, 22), (1, 23), (2, 24), (3, 8)] (fun i => [Fact.seq (Kd.int .u8) (l0.take k), Fact.seq (Kd.int .u8) (l1.take k), Fact.seq (Kd.int .i64) (apartI (l0.take k) (l1.take k)), Fact.seq (Kd.int .i64) (apartI (l0.take k) (l1.take k))].getD i Fact.any) ?_ [0, 1, 2, 3] (B := [0, 0, 3, 7]) (by kernel_rfl) (by kernel_rfl) (by kernel_rfl) rfl ?_ ?_ ?_
  rotate_left
  · intro v
    simp only [filled, Act.put, List.setIfInBounds_toArray, List.set_cons_zero, List.set_cons_succ]
    rfl
  rotate_left
  rotate_right
  · skip
    refine gat_cons ?_ ?_
    · intro v w' hg hd
      clear hd
      refine ⟨_, rfl, fun K hK => ?_⟩
      exact value_ (w1 := w') (v := (u6)) rfl rfl rfl (hK.out _ _ ((Fact.seq (Kd.int .u8) (l0.take k)).mono h6 hg) (Grew.refl _))
    refine gat_cons ?_ ?_
    · intro v w' hg hd
      clear hd
      refine ⟨_, rfl, fun K hK => ?_⟩
      exact value_ (w1 := w') (v := (u7)) rfl rfl rfl (hK.out _ _ ((Fact.seq (Kd.int .u8) (l1.take k)).mono h7 hg) (Grew.refl _))
    refine gat_cons ?_ ?_
    · intro v w' hg hd
      have h0 : (Fact.seq (Kd.int .u8) (l0.take k)).p (v 0) w' := hd 0 (by kernel_rfl)
      have h1 : (Fact.seq (Kd.int .u8) (l1.take k)).p (v 1) w' := hd 1 (by kernel_rfl)
      clear hd
      refine ⟨_, rfl, fun K hK => ?_⟩
      refine goes_ Try.func19 (by kernel_rfl) rfl #[v 0, v 1] rfl rfl rfl (by (try simp only [List.map_toArray, List.map_cons, List.map_nil]); first | done | rfl) ?_
      refine (apart_g h0 h1 (bytes_take b0 k) (bytes_take b1 k) (by rw [HY.out.2.1]; omega) (HY.out.2.1.trans HY.out.2.2.symm)).mono ?_
      rintro e w'' ⟨u, rfl, hu, hb⟩
      exact ⟨_, rfl, hK.out _ _ hu hb⟩
    refine gat_cons ?_ ?_
    · intro v w' hg hd
      have h2 : (Fact.seq (Kd.int .i64) (apartI (l0.take k) (l1.take k))).p (v 2) w' := hd 2 (by kernel_rfl)
      clear hd
      refine ⟨_, rfl, fun K hK => ?_⟩
      exact value_ (w1 := w') (v := v 2) rfl rfl rfl (hK.out _ _ h2 (Grew.refl _))
    exact gat_nil
  intro v w3 hg hd
  have h8 : (Fact.seq (Kd.int .i64) (apartI (l0.take k) (l1.take k))).p (v 3) w3 := hd 3 (by decide)
  clear hd
  generalize v 3 = u8 at h8 ⊢
  have G3 := Aside0.mk (G2.out.step hg)
  replace h6 := (Fact.seq (Kd.int .u8) (l0.take k)).mono h6 hg
  replace h7 := (Fact.seq (Kd.int .u8) (l1.take k)).mono h7 hg
  clear G2 hg
  refine wp_seq ?_
  refine grow_at 26 [(0, 25), (1, 26), (2, 27), (3, 28), (4, 29), (5, 30), (6, 31), (7, 32), (8, 33), (9, 34), (10, 35), (11, 36), (12, 37), (13, 38), (14, 39), (15, 40), (16, 41), (17, 42), (18, 43), (19, 44), (20, 45), (21, 46), (22, 47), (23, 48), (24, 49), (25, 4)] (fun i => [Fact.seq (Kd.int .u8) (l0.take k), Fact.seq (Kd.int .i64) (apartI (l0.take k) (l1.take k)), Fact.seq (Kd.int .u8) (flipI (l0.take k) (apartI (l0.take k) (l1.take k))), Fact.is (.string (strOfNums (flipI (l0.take k) (apartI (l0.take k) (l1.take k))))), Fact.seq (Kd.int .u8) (l1.take k), Fact.is (.string (strOfNums (l1.take k))), Fact.is (.bool true), Fact.is (.bool true), Fact.seq (Kd.int .u8) (l0.take k), Fact.seq (Kd.int .i64) (apartI (l0.take k) (l1.take k)), Fact.seq (Kd.int .u8) (flipI (l0.take k) (apartI (l0.take k) (l1.take k))), Fact.seq (Kd.int .i64) (apartI (l0.take k) (l1.take k)), Fact.seq (Kd.int .u8) (flipI (flipI (l0.take k) (apartI (l0.take k) (l1.take k))) (apartI (l0.take k) (l1.take k))), Fact.is (.string (strOfNums (flipI (flipI (l0.take k) (apartI (l0.take k) (l1.take k))) (apartI (l0.take k) (l1.take k))))), Fact.seq (Kd.int .u8) (l0.take k), Fact.is (.string (strOfNums (l0.take k))), Fact.is (.bool true), Fact.is (.bool true), Fact.is (.bool true), Fact.seq (Kd.int .u8) (l0.take k), Fact.seq (Kd.int .u8) (l0.take k), Fact.seq (Kd.int .i64) (apartI (l0.take k) (l0.take k)), Fact.is (.int .i64 ((apartI (l0.take k) (l0.take k)).length : Int)), Fact.is (.bool true), Fact.is (.bool true), Fact.is (.bool true)].getD i Fact.any) ?_ [0, 1, 2, 3, 4, 5, 6, 7, 8, 9, 10, 11, 12, 13, 14, 15, 16, 17, 18, 19, 20, 21, 22, 23, 24, 25] (by kernel_rfl) (B := [0, 0, 3, 7, 0, 16, 63, 127, 255, 255, 1023, 255, 4095, 8191, 255, 16639, 65535, 131071, 262143, 524287, 524287, 2097151, 4194303, 8388607, 16777215, 33554431]) rfl (by kernel_rfl) (by kernel_rfl) (by kernel_rfl) (by kernel_rfl) rfl ?_ ?_ ?_
  rotate_left
  · intro v
    simp only [filled, Act.put, List.setIfInBounds_toArray, List.set_cons_zero, List.set_cons_succ]
    rfl
  rotate_left
  rotate_right
  · skip
    refine gat_cons ?_ ?_
    · intro v w' hg hd
      clear hd
      refine ⟨_, rfl, fun K hK => ?_⟩
      exact value_ (w1 := w') (v := (u6)) rfl rfl rfl (hK.out _ _ ((Fact.seq (Kd.int .u8) (l0.take k)).mono h6 hg) (Grew.refl _))
    refine gat_cons ?_ ?_
    · intro v w' hg hd
      clear hd
      refine ⟨_, rfl, fun K hK => ?_⟩
      exact value_ (w1 := w') (v := (u8)) rfl rfl rfl (hK.out _ _ ((Fact.seq (Kd.int .i64) (apartI (l0.take k) (l1.take k))).mono h8 hg) (Grew.refl _))
    refine gat_cons ?_ ?_
    · intro v w' hg hd
      have h0 : (Fact.seq (Kd.int .u8) (l0.take k)).p (v 0) w' := hd 0 (by kernel_rfl)
      have h1 : (Fact.seq (Kd.int .i64) (apartI (l0.take k) (l1.take k))).p (v 1) w' := hd 1 (by kernel_rfl)
      clear hd
      refine ⟨_, rfl, fun K hK => ?_⟩
      refine goes_ Try.func20 (by kernel_rfl) rfl #[v 0, v 1] rfl rfl rfl (by (try simp only [List.map_toArray, List.map_cons, List.map_nil]); first | done | rfl) ?_
      refine (flip_g h0 h1 (bytes_take b0 k) (by rw [HY.out.2.1]; omega) HX.out.2.2).mono ?_
      rintro e w'' ⟨u, rfl, hu, hb⟩
      exact ⟨_, rfl, hK.out _ _ hu hb⟩
    refine gat_cons ?_ ?_
    · intro v w' hg hd
      have h2 : (Fact.seq (Kd.int .u8) (flipI (l0.take k) (apartI (l0.take k) (l1.take k)))).p (v 2) w' := hd 2 (by kernel_rfl)
      clear hd
      refine ⟨_, rfl, fun K hK => ?_⟩
      obtain ⟨A_, c_, e_, _, C_⟩ : (Fact.seq (Kd.int .u8) (flipI (l0.take k) (apartI (l0.take k) (l1.take k)))).p (v 2) w' := h2
      have hcv := Kd.C_string (P := Try.prog) (A := A_) (c := c_) Try.underlying28 Try.underlying5 Try.underlying9 C_
      refine value_ (w1 := w') (v := .string (strOfNums (flipI (l0.take k) (apartI (l0.take k) (l1.take k))))) rfl rfl ?_ (hK.out _ _ rfl (Grew.refl _))
      clear hK C_
      generalize ((flipI (l0.take k) (apartI (l0.take k) (l1.take k)))).length = n_ at e_ hcv
      go_simp
      (try rfl)
    refine gat_cons ?_ ?_
    · intro v w' hg hd
      clear hd
      refine ⟨_, rfl, fun K hK => ?_⟩
      exact value_ (w1 := w') (v := (u7)) rfl rfl rfl (hK.out _ _ ((Fact.seq (Kd.int .u8) (l1.take k)).mono h7 hg) (Grew.refl _))
    refine gat_cons ?_ ?_
    · intro v w' hg hd
      have h4 : (Fact.seq (Kd.int .u8) (l1.take k)).p (v 4) w' := hd 4 (by kernel_rfl)
      clear hd
      refine ⟨_, rfl, fun K hK => ?_⟩
      obtain ⟨A_, c_, e_, _, C_⟩ : (Fact.seq (Kd.int .u8) (l1.take k)).p (v 4) w' := h4
      have hcv := Kd.C_string (P := Try.prog) (A := A_) (c := c_) Try.underlying28 Try.underlying5 Try.underlying9 C_
      refine value_ (w1 := w') (v := .string (strOfNums (l1.take k))) rfl rfl ?_ (hK.out _ _ rfl (Grew.refl _))
      clear hK C_
      generalize ((l1.take k)).length = n_ at e_ hcv
      go_simp
      (try rfl)
    refine gat_cons ?_ ?_
    · intro v w' hg hd
      have h3 : v 3 = .string (strOfNums (flipI (l0.take k) (apartI (l0.take k) (l1.take k)))) := hd 3 (by kernel_rfl)
      have h5 : v 5 = .string (strOfNums (l1.take k)) := hd 5 (by kernel_rfl)
      clear hd
      refine ⟨_, rfl, fun K hK => ?_⟩
      refine value_ (w1 := w') (v := .bool true) rfl rfl ?_ (hK.out _ _ rfl (Grew.refl _))
      clear hK
      go_simp
      (try (simp [HX.out.1.1]))
    refine gat_cons ?_ ?_
    · intro v w' hg hd
      have h6 : v 6 = .bool true := hd 6 (by kernel_rfl)
      clear hd
      refine ⟨_, rfl, fun K hK => ?_⟩
      exact value_ (w1 := w') (v := v 6) rfl rfl rfl (hK.out _ _ h6 (Grew.refl _))
    refine gat_cons ?_ ?_
    · intro v w' hg hd
      have h7 : v 7 = .bool true := hd 7 (by kernel_rfl)
      clear hd
      refine ⟨_, rfl, fun K hK => ?_⟩
      exact value_ (w1 := w') (v := (u6)) (wanted_on rfl rfl rfl (by show some (v 7) = _; rw [h7])) rfl rfl (hK.out _ _ ((Fact.seq (Kd.int .u8) (l0.take k)).mono h6 hg) (Grew.refl _))
    refine gat_cons ?_ ?_
    · intro v w' hg hd
      have h7 : v 7 = .bool true := hd 7 (by kernel_rfl)
      clear hd
      refine ⟨_, rfl, fun K hK => ?_⟩
      exact value_ (w1 := w') (v := (u8)) (wanted_on rfl rfl rfl (by show some (v 7) = _; rw [h7])) rfl rfl (hK.out _ _ ((Fact.seq (Kd.int .i64) (apartI (l0.take k) (l1.take k))).mono h8 hg) (Grew.refl _))
    refine gat_cons ?_ ?_
    · intro v w' hg hd
      have h7 : v 7 = .bool true := hd 7 (by kernel_rfl)
      have h8 : (Fact.seq (Kd.int .u8) (l0.take k)).p (v 8) w' := hd 8 (by kernel_rfl)
      have h9 : (Fact.seq (Kd.int .i64) (apartI (l0.take k) (l1.take k))).p (v 9) w' := hd 9 (by kernel_rfl)
      clear hd
      refine ⟨_, rfl, fun K hK => ?_⟩
      refine goes_ Try.func20 (by kernel_rfl) rfl #[v 8, v 9] (wanted_on rfl rfl rfl (by show some (v 7) = _; rw [h7])) rfl rfl (by (try simp only [List.map_toArray, List.map_cons, List.map_nil]); first | done | rfl) ?_
      refine (flip_g h8 h9 (bytes_take b0 k) (by rw [HY.out.2.1]; omega) HX.out.2.2).mono ?_
      rintro e w'' ⟨u, rfl, hu, hb⟩
      exact ⟨_, rfl, hK.out _ _ hu hb⟩
    refine gat_cons ?_ ?_
    · intro v w' hg hd
      have h7 : v 7 = .bool true := hd 7 (by kernel_rfl)
      clear hd
      refine ⟨_, rfl, fun K hK => ?_⟩
      exact value_ (w1 := w') (v := (u8)) (wanted_on rfl rfl rfl (by show some (v 7) = _; rw [h7])) rfl rfl (hK.out _ _ ((Fact.seq (Kd.int .i64) (apartI (l0.take k) (l1.take k))).mono h8 hg) (Grew.refl _))
    refine gat_cons ?_ ?_
    · intro v w' hg hd
      have h7 : v 7 = .bool true := hd 7 (by kernel_rfl)
      have h10 : (Fact.seq (Kd.int .u8) (flipI (l0.take k) (apartI (l0.take k) (l1.take k)))).p (v 10) w' := hd 10 (by kernel_rfl)
      have h11 : (Fact.seq (Kd.int .i64) (apartI (l0.take k) (l1.take k))).p (v 11) w' := hd 11 (by kernel_rfl)
      clear hd
      refine ⟨_, rfl, fun K hK => ?_⟩
      refine goes_ Try.func20 (by kernel_rfl) rfl #[v 10, v 11] (wanted_on rfl rfl rfl (by show some (v 7) = _; rw [h7])) rfl rfl (by (try simp only [List.map_toArray, List.map_cons, List.map_nil]); first | done | rfl) ?_
      refine (flip_g h10 h11 (flipI_bytes _ (bytes_take b0 k)) (by rw [flipI_length, HY.out.2.1]; omega) HX.out.2.2).mono ?_
      rintro e w'' ⟨u, rfl, hu, hb⟩
      exact ⟨_, rfl, hK.out _ _ hu hb⟩
    refine gat_cons ?_ ?_
    · intro v w' hg hd
      have h7 : v 7 = .bool true := hd 7 (by kernel_rfl)
      have h12 : (Fact.seq (Kd.int .u8) (flipI (flipI (l0.take k) (apartI (l0.take k) (l1.take k))) (apartI (l0.take k) (l1.take k)))).p (v 12) w' := hd 12 (by kernel_rfl)
      clear hd
      refine ⟨_, rfl, fun K hK => ?_⟩
      obtain ⟨A_, c_, e_, _, C_⟩ : (Fact.seq (Kd.int .u8) (flipI (flipI (l0.take k) (apartI (l0.take k) (l1.take k))) (apartI (l0.take k) (l1.take k)))).p (v 12) w' := h12
      have hcv := Kd.C_string (P := Try.prog) (A := A_) (c := c_) Try.underlying28 Try.underlying5 Try.underlying9 C_
      refine value_ (w1 := w') (v := .string (strOfNums (flipI (flipI (l0.take k) (apartI (l0.take k) (l1.take k))) (apartI (l0.take k) (l1.take k))))) (wanted_on rfl rfl rfl (by show some (v 7) = _; rw [h7])) rfl ?_ (hK.out _ _ rfl (Grew.refl _))
      clear hK C_
      generalize ((flipI (flipI (l0.take k) (apartI (l0.take k) (l1.take k))) (apartI (l0.take k) (l1.take k)))).length = n_ at e_ hcv
      go_simp
      (try rfl)
    refine gat_cons ?_ ?_
    · intro v w' hg hd
      have h7 : v 7 = .bool true := hd 7 (by kernel_rfl)
      clear hd
      refine ⟨_, rfl, fun K hK => ?_⟩
      exact value_ (w1 := w') (v := (u6)) (wanted_on rfl rfl rfl (by show some (v 7) = _; rw [h7])) rfl rfl (hK.out _ _ ((Fact.seq (Kd.int .u8) (l0.take k)).mono h6 hg) (Grew.refl _))
    refine gat_cons ?_ ?_
    · intro v w' hg hd
      have h7 : v 7 = .bool true := hd 7 (by kernel_rfl)
      have h14 : (Fact.seq (Kd.int .u8) (l0.take k)).p (v 14) w' := hd 14 (by kernel_rfl)
      clear hd
      refine ⟨_, rfl, fun K hK => ?_⟩
      obtain ⟨A_, c_, e_, _, C_⟩ : (Fact.seq (Kd.int .u8) (l0.take k)).p (v 14) w' := h14
      have hcv := Kd.C_string (P := Try.prog) (A := A_) (c := c_) Try.underlying28 Try.underlying5 Try.underlying9 C_
      refine value_ (w1 := w') (v := .string (strOfNums (l0.take k))) (wanted_on rfl rfl rfl (by show some (v 7) = _; rw [h7])) rfl ?_ (hK.out _ _ rfl (Grew.refl _))
      clear hK C_
      generalize ((l0.take k)).length = n_ at e_ hcv
      go_simp
      (try rfl)
    refine gat_cons ?_ ?_
    · intro v w' hg hd
      have h7 : v 7 = .bool true := hd 7 (by kernel_rfl)
      have h13 : v 13 = .string (strOfNums (flipI (flipI (l0.take k) (apartI (l0.take k) (l1.take k))) (apartI (l0.take k) (l1.take k)))) := hd 13 (by kernel_rfl)
      have h15 : v 15 = .string (strOfNums (l0.take k)) := hd 15 (by kernel_rfl)
      clear hd
      refine ⟨_, rfl, fun K hK => ?_⟩
      refine value_ (w1 := w') (v := .bool true) (wanted_on rfl rfl rfl (by show some (v 7) = _; rw [h7])) rfl ?_ (hK.out _ _ rfl (Grew.refl _))
      clear hK
      go_simp
      (try (simp [HX.out.1.1, HX.out.1.2]))
    refine gat_cons ?_ ?_
    · intro v w' hg hd
      have h7 : v 7 = .bool true := hd 7 (by kernel_rfl)
      have h16 : v 16 = .bool true := hd 16 (by kernel_rfl)
      clear hd
      refine ⟨_, rfl, fun K hK => ?_⟩
      refine value_ (w1 := w') (v := .bool true) rfl rfl ?_ (hK.out _ _ rfl (Grew.refl _))
      clear hK
      go_simp
      (try rfl)
    refine gat_cons ?_ ?_
    · intro v w' hg hd
      have h17 : v 17 = .bool true := hd 17 (by kernel_rfl)
      clear hd
      refine ⟨_, rfl, fun K hK => ?_⟩
      exact value_ (w1 := w') (v := v 17) rfl rfl rfl (hK.out _ _ h17 (Grew.refl _))
    refine gat_cons ?_ ?_
    · intro v w' hg hd
      have h18 : v 18 = .bool true := hd 18 (by kernel_rfl)
      clear hd
      refine ⟨_, rfl, fun K hK => ?_⟩
      exact value_ (w1 := w') (v := (u6)) (wanted_on rfl rfl rfl (by show some (v 18) = _; rw [h18])) rfl rfl (hK.out _ _ ((Fact.seq (Kd.int .u8) (l0.take k)).mono h6 hg) (Grew.refl _))
    refine gat_cons ?_ ?_
    · intro v w' hg hd
      have h18 : v 18 = .bool true := hd 18 (by kernel_rfl)
      clear hd
      refine ⟨_, rfl, fun K hK => ?_⟩
      exact value_ (w1 := w') (v := (u6)) (wanted_on rfl rfl rfl (by show some (v 18) = _; rw [h18])) rfl rfl (hK.out _ _ ((Fact.seq (Kd.int .u8) (l0.take k)).mono h6 hg) (Grew.refl _))
    refine gat_cons ?_ ?_
    · intro v w' hg hd
      have h18 : v 18 = .bool true := hd 18 (by kernel_rfl)
      have h19 : (Fact.seq (Kd.int .u8) (l0.take k)).p (v 19) w' := hd 19 (by kernel_rfl)
      have h20 : (Fact.seq (Kd.int .u8) (l0.take k)).p (v 20) w' := hd 20 (by kernel_rfl)
      clear hd
      refine ⟨_, rfl, fun K hK => ?_⟩
      refine goes_ Try.func19 (by kernel_rfl) rfl #[v 19, v 20] (wanted_on rfl rfl rfl (by show some (v 18) = _; rw [h18])) rfl rfl (by (try simp only [List.map_toArray, List.map_cons, List.map_nil]); first | done | rfl) ?_
      refine (apart_g h19 h20 (bytes_take b0 k) (bytes_take b0 k) (by rw [HY.out.2.1]; omega) rfl).mono ?_
      rintro e w'' ⟨u, rfl, hu, hb⟩
      exact ⟨_, rfl, hK.out _ _ hu hb⟩
    refine gat_cons ?_ ?_
    · intro v w' hg hd
      have h18 : v 18 = .bool true := hd 18 (by kernel_rfl)
      have h21 : (Fact.seq (Kd.int .i64) (apartI (l0.take k) (l0.take k))).p (v 21) w' := hd 21 (by kernel_rfl)
      clear hd
      refine ⟨_, rfl, fun K hK => ?_⟩
      obtain ⟨A_, c_, e_, _, _⟩ : (Fact.seq (Kd.int .i64) (apartI (l0.take k) (l0.take k))).p (v 21) w' := h21
      refine value_ (w1 := w') (v := .int .i64 ((apartI (l0.take k) (l0.take k)).length : Int)) (wanted_on rfl rfl rfl (by show some (v 18) = _; rw [h18])) rfl ?_ (hK.out _ _ rfl (Grew.refl _))
      clear hK
      generalize ((apartI (l0.take k) (l0.take k))).length = n_ at e_ ⊢
      go_simp
      (try rfl)
    refine gat_cons ?_ ?_
    · intro v w' hg hd
      have h18 : v 18 = .bool true := hd 18 (by kernel_rfl)
      have h22 : v 22 = .int .i64 ((apartI (l0.take k) (l0.take k)).length : Int) := hd 22 (by kernel_rfl)
      clear hd
      refine ⟨_, rfl, fun K hK => ?_⟩
      refine value_ (w1 := w') (v := .bool true) (wanted_on rfl rfl rfl (by show some (v 18) = _; rw [h18])) rfl ?_ (hK.out _ _ rfl (Grew.refl _))
      clear hK
      go_simp
      (try (simp [HX.out.2.1]))
    refine gat_cons ?_ ?_
    · intro v w' hg hd
      have h18 : v 18 = .bool true := hd 18 (by kernel_rfl)
      have h23 : v 23 = .bool true := hd 23 (by kernel_rfl)
      clear hd
      refine ⟨_, rfl, fun K hK => ?_⟩
      refine value_ (w1 := w') (v := .bool true) rfl rfl ?_ (hK.out _ _ rfl (Grew.refl _))
      clear hK
      go_simp
      (try rfl)
    refine gat_cons ?_ ?_
    · intro v w' hg hd
      have h24 : v 24 = .bool true := hd 24 (by kernel_rfl)
      clear hd
      refine ⟨_, rfl, fun K hK => ?_⟩
      exact value_ (w1 := w') (v := v 24) rfl rfl rfl (hK.out _ _ h24 (Grew.refl _))
    exact gat_nil
  intro v w4 hg hd
  have h4 : v 25 = .bool true := hd 25 (by decide)
  clear hd
  generalize v 25 = u4 at h4 ⊢
  subst h4
  have G4 := G3.out.step hg
  clear G3 hg
  try go_wp2
  go_ret
  exact ⟨rfl, G4⟩
theorem apartI_length (a b : List Int) (h : a.length = b.length) : (apartI a b).length ≤ 8 * a.length := by
  unfold apartI apartL
  rw [int_length]
  have := onesL_length (xorL (nat a) (nat b))
  rw [xorL_length (by rw [nat_length, nat_length, h]), nat_length] at this
  exact this
theorem turnI {a b : List Int} (ha : bytesB a = true) (hb : bytesB b = true) (h : a.length = b.length) : flipI a (apartI a b) = b := by
  unfold flipI apartI
  rw [turn_apart (nat_mem_lt ha) (nat_mem_lt hb) (by rw [nat_length, nat_length, h]), int_nat hb]
theorem apart_comm {a b : List Nat} (h : a.length = b.length) : apartL a b = apartL b a := by
  unfold apartL
  have : xorL a b = xorL b a := by unfold xorL; rw [List.zipWith_comm]; congr 1; funext x y; exact Nat.xor_comm _ _
  rw [this]
theorem turn_total (A0 : Option Addr) (c0 : Nat) (l0 : List Int) (A1 : Option Addr) (c1 : Nat) (l1 : List Int) (w : World) (hr0 : Kd.C (Kd.int .u8) w A0 l0.length l0) (hc0 : l0.length ≤ c0) (hr1 : Kd.C (Kd.int .u8) w A1 l1.length l1) (hc1 : l1.length ≤ c1)
    (b0 : bytesB l0 = true) (b1 : bytesB l1 = true) :
    Calls Try.prog 5 #[.slice A0 l0.length c0, .slice A1 l1.length c1] w fun e w' => e = .returned (.bool true) ∧ Below w.heap.size w w' := by
  have hl : (l0.take (min (min l0.length l1.length) 60)).length = (l1.take (min (min l0.length l1.length) 60)).length := by rw [List.length_take, List.length_take]; omega
  refine turn_calls A0 c0 l0 A1 c1 l1 w hr0 hc0 hr1 hc1 b0 b1 _ _ rfl rfl (turnI (bytes_take b0 _) (bytes_take b1 _) hl) ?_ (apart_self _) ?_
  · have := turnI (bytes_take b1 _) (bytes_take b0 _) hl.symm
    unfold apartI at this ⊢
    rw [apart_comm (by rw [nat_length, nat_length, hl])]
    exact this
  · have := apartI_length _ _ hl
    rw [List.length_take] at this
    omega
end Go.Proofs.YtnlbekdjepkhcaaBM
