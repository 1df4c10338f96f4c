import Derived.Test.YtnlbekdjepkhcaaBtC
set_option linter.unusedSimpArgs false
set_option linter.unusedVariables false
namespace Go.Proofs.YtnlbekdjepkhcaaBM
open Go.RowKit Go.Proofs.YtnlbekdjepkhcaaW.PrintWords Go.Proofs.YtnlbekdjepkhcaaW.PrintLast Go.Proofs.YtnlbekdjepkhcaaW.PrintMore Go.Proofs.YtnlbekdjepkhcaaG Ram
attribute [local go_sem] max2_int min2_int max_two min_two max_three min_three max_four min_four
set_option maxHeartbeats 8000000 in
set_option maxRecDepth 100000 in
theorem bmix_calls (A0 : Option Addr) (c0 : Nat) (l0 : List Int) (A1 : Option Addr) (c1 : Nat) (l1 : List Int) (A2 : Option Addr) (c2 : Nat) (l2 : List Int) (w : World) (hr0 : Kd.C (Kd.int .u8) w A0 l0.length l0) (hc0 : l0.length ≤ c0) (hr1 : Kd.C (Kd.int .u8) w A1 l1.length l1) (hc1 : l1.length ≤ c1) (hr2 : Kd.C (Kd.int .u8) w A2 l2.length l2) (hc2 : l2.length ≤ c2)
    (b0 : bytesB l0 = true) (b1 : bytesB l1 = true) (b2 : bytesB l2 = true) (k5 k : Nat) (hk5 : k5 = min l0.length l1.length) (hk : k = min k5 60)
    (H1 : mixI (l0.take k) (l1.take k) [] = l0.take k)
    (H2 : mixI (l0.take k) (l1.take k) [255] = l1.take k)
    (H3 : ((apartI (l0.take k) (mixI (l0.take k) (l1.take k) l2)).length : Int) + ((apartI (mixI (l0.take k) (l1.take k) l2) (l1.take k)).length : Int) = ((apartI (l0.take k) (l1.take k)).length : Int))
    (H4 : (apartI (l0.take k) (l1.take k)).length < 1000000) :
    Calls Try.prog 7 #[.slice A0 l0.length c0, .slice A1 l1.length c1, .slice A2 l2.length c2] w fun e w' => e = .returned (.bool true) ∧ Below w.heap.size w w' := by
  have hji5_ : (if (l1.length : Int) < (l0.length : Int) then (l1.length : Int) else (l0.length : Int)) = (k5 : Int) := by split <;> omega
  have hji5_n : (if l1.length < l0.length then (l1.length : Int) else (l0.length : Int)) = (k5 : Int) := by split <;> omega
  have hji6_ : (if (60 : Int) < (k5 : Int) then 60 else (k5 : Int)) = (k : Int) := by split <;> omega
  have hl0 : k ≤ l0.length := by omega
  have hl1 : k ≤ l1.length := by omega
  have hx : (l0.take k).length = k := by rw [List.length_take]; omega
  have hy : (l1.take k).length = k := by rw [List.length_take]; omega
  have HY := Aside0.mk (And.intro (And.intro hl0 hl1) (And.intro hx hy))
  have HX := Aside0.mk (And.intro (And.intro H1 H2) (And.intro H3 H4))
  clear H1 H2 H3 H4 hl0 hl1 hx hy hk hk5
  have HR0 := Aside0.mk hr0
  have HR1 := Aside0.mk hr1
  have HR2 := Aside0.mk hr2
  have HC0 := Aside0.mk hc0
  have HC1 := Aside0.mk hc1
  have HC2 := Aside0.mk hc2
  clear hr0 hr1 hc0 hc1 hr2 hc2
  by_cases h60 : 60 < l2.length
  · have h60b : decide ((60 : Int) < (l2.length : Int)) = true := decide_eq_true (by omega)
    clear h60
    go_enter Try.func7, Try.ntmps7
    go_wp2_with (first | ((with_reducible refine gate_callee (f := 18) rfl ?_); refine goesL_ (some 11) rfl rfl Try.func18 (by kernel_rfl) rfl #[] rfl (by (try simp only [List.map_toArray, List.map_cons, List.map_nil]); first | done | rfl) ?_; (refine (known_g _).mono ?_); rintro e w1 ⟨u_, rfl, hu_, hb⟩; obtain rfl : u_ = .bool true := hu_; refine ⟨_, rfl, ?_⟩))
    go_ret
    exact ⟨rfl, hb⟩
  have h60b : decide ((60 : Int) < (l2.length : Int)) = false := decide_eq_false (by omega)
  have H60 := Aside0.mk h60
  clear h60
  go_enter Try.func7, Try.ntmps7
  go_wp2_with (first | ((with_reducible refine gate_callee (f := 18) rfl ?_); refine goesL_ (some 11) rfl rfl Try.func18 (by kernel_rfl) rfl #[] rfl (by (try simp only [List.map_toArray, List.map_cons, List.map_nil]); first | done | rfl) ?_; (refine (known_g _).mono ?_); rintro e w1 ⟨u_, rfl, hu_, hb⟩; obtain rfl : u_ = .bool true := hu_; refine ⟨_, rfl, ?_⟩))
  have s0 : (Fact.seq (Kd.int .u8) l0).p (.slice A0 l0.length c0) w1 := ⟨_, _, rfl, HC0.out, Kd.C_below HR0.out hb⟩
  have s1 : (Fact.seq (Kd.int .u8) l1).p (.slice A1 l1.length c1) w1 := ⟨_, _, rfl, HC1.out, Kd.C_below HR1.out hb⟩
  have s2 : (Fact.seq (Kd.int .u8) l2).p (.slice A2 l2.length c2) w1 := ⟨_, _, rfl, HC2.out, Kd.C_below HR2.out hb⟩
  have G1 := Aside0.mk hb
  clear hb
  refine grow_at 8 [(0, 21), (1, 22), (2, 23), (3, 24), (4, 25), (5, 26), (6, 8), (7, 9)] (fun i => [Fact.seq (Kd.int .u8) l0, Fact.is (.int .i64 (k : Int)), Fact.seq (Kd.int .u8) (l0.take k), Fact.seq (Kd.int .u8) l1, Fact.is (.int .i64 (k : Int)), Fact.seq (Kd.int .u8) (l1.take k), Fact.seq (Kd.int .u8) (l0.take k), Fact.seq (Kd.int .u8) (l1.take k)].getD i Fact.any) ?_ [0, 1, 2, 3, 4, 5, 6, 7] (by kernel_rfl) (B := [0, 0, 3, 0, 0, 24, 7, 127]) rfl (by kernel_rfl) (by kernel_rfl) (by kernel_rfl) (by kernel_rfl) rfl ?_ ?_ ?_
  rotate_left
  · intro v
    simp only [filled, Act.put, List.setIfInBounds_toArray, List.set_cons_zero, List.set_cons_succ]
    rfl
  rotate_left
  rotate_right
  · skip
    refine gat_cons ?_ ?_
    · intro v w' hg hd
      clear hd
      refine ⟨_, rfl, fun K hK => ?_⟩
      exact value_ (w1 := w') (v := (.slice A0 l0.length c0)) rfl rfl rfl (hK.out _ _ ((Fact.seq (Kd.int .u8) l0).mono s0 hg) (Grew.refl _))
    refine gat_cons ?_ ?_
    · intro v w' hg hd
      clear hd
      refine ⟨_, rfl, fun K hK => ?_⟩
      exact value_ (w1 := w') (v := (.int .i64 (k : Int))) rfl rfl rfl (hK.out _ _ rfl (Grew.refl _))
    refine gat_cons ?_ ?_
    · intro v w' hg hd
      have h0 : (Fact.seq (Kd.int .u8) l0).p (v 0) w' := hd 0 (by kernel_rfl)
      have h1 : v 1 = .int .i64 (k : Int) := hd 1 (by kernel_rfl)
      clear hd
      refine ⟨_, rfl, fun K hK => ?_⟩
      obtain ⟨u', hrun, hu'⟩ := take_g (u := v 0) h0 (HY.out.1.1)
      have e1_ : v 1 = _ := h1
      refine value_ (w1 := w') (v := u') rfl rfl ?_ (hK.out _ _ hu' (Grew.refl _))
      clear hK
      go_simp
      (try rfl)
    refine gat_cons ?_ ?_
    · intro v w' hg hd
      clear hd
      refine ⟨_, rfl, fun K hK => ?_⟩
      exact value_ (w1 := w') (v := (.slice A1 l1.length c1)) rfl rfl rfl (hK.out _ _ ((Fact.seq (Kd.int .u8) l1).mono s1 hg) (Grew.refl _))
    refine gat_cons ?_ ?_
    · intro v w' hg hd
      clear hd
      refine ⟨_, rfl, fun K hK => ?_⟩
      exact value_ (w1 := w') (v := (.int .i64 (k : Int))) rfl rfl rfl (hK.out _ _ rfl (Grew.refl _))
    refine gat_cons ?_ ?_
    · intro v w' hg hd
      have h3 : (Fact.seq (Kd.int .u8) l1).p (v 3) w' := hd 3 (by kernel_rfl)
      have h4 : v 4 = .int .i64 (k : Int) := hd 4 (by kernel_rfl)
      clear hd
      refine ⟨_, rfl, fun K hK => ?_⟩
      obtain ⟨u', hrun, hu'⟩ := take_g (u := v 3) h3 (HY.out.1.2)
      have e1_ : v 4 = _ := h4
      refine value_ (w1 := w') (v := u') rfl rfl ?_ (hK.out _ _ hu' (Grew.refl _))
      clear hK
      go_simp
      (try rfl)
    refine gat_cons ?_ ?_
    · intro v w' hg hd
      have h2 : (Fact.seq (Kd.int .u8) (l0.take k)).p (v 2) w' := hd 2 (by kernel_rfl)
      clear hd
      refine ⟨_, rfl, fun K hK => ?_⟩
      exact value_ (w1 := w') (v := v 2) rfl rfl rfl (hK.out _ _ h2 (Grew.refl _))
    refine gat_cons ?_ ?_
    · intro v w' hg hd
      have h5 : (Fact.seq (Kd.int .u8) (l1.take k)).p (v 5) w' := hd 5 (by kernel_rfl)
      clear hd
      refine ⟨_, rfl, fun K hK => ?_⟩
      exact value_ (w1 := w') (v := v 5) rfl rfl rfl (hK.out _ _ h5 (Grew.refl _))
    exact gat_nil
  intro v w2 hg hd
  have h8 : (Fact.seq (Kd.int .u8) (l0.take k)).p (v 6) w2 := hd 6 (by decide)
  have h9 : (Fact.seq (Kd.int .u8) (l1.take k)).p (v 7) w2 := hd 7 (by decide)
  clear hd
  generalize v 6 = u8 at h8 ⊢
  generalize v 7 = u9 at h9 ⊢
  have G2 := Aside0.mk (G1.out.step hg)
  replace s2 := (Fact.seq (Kd.int .u8) l2).mono s2 hg
  clear G1 hg s0 s1
  rename_i K_ hK_
  refine hK_ _ _ ?_
  clear hK_
  refine wp_seq ?_
  refine grow_plain_at 5 [(0, 27), (1, 28), (2, 29), (3, 30), (4, 10)] (fun i => [Fact.seq (Kd.int .u8) (l0.take k), Fact.seq (Kd.int .u8) (l1.take k), Fact.seq (Kd.int .u8) l2, Fact.seq (Kd.int .u8) (mixI (l0.take k) (l1.take k) l2), Fact.seq (Kd.int .u8) (mixI (l0.take k) (l1.take k) l2)].getD i Fact.any) ?_ [0, 1, 2, 3, 4] (B := [0, 0, 0, 7, 15]) (by kernel_rfl) (by kernel_rfl) (by kernel_rfl) rfl ?_ ?_ ?_
  rotate_left
  · intro v
    simp only [filled, Act.put, List.setIfInBounds_toArray, List.set_cons_zero, List.set_cons_succ]
    rfl
  rotate_left
  rotate_right
  · skip
    refine gat_cons ?_ ?_
    · intro v w' hg hd
      clear hd
      refine ⟨_, rfl, fun K hK => ?_⟩
      exact value_ (w1 := w') (v := (u8)) rfl rfl rfl (hK.out _ _ ((Fact.seq (Kd.int .u8) (l0.take k)).mono h8 hg) (Grew.refl _))
    refine gat_cons ?_ ?_
    · intro v w' hg hd
      clear hd
      refine ⟨_, rfl, fun K hK => ?_⟩
      exact value_ (w1 := w') (v := (u9)) rfl rfl rfl (hK.out _ _ ((Fact.seq (Kd.int .u8) (l1.take k)).mono h9 hg) (Grew.refl _))
    refine gat_cons ?_ ?_
    · intro v w' hg hd
      clear hd
      refine ⟨_, rfl, fun K hK => ?_⟩
      exact value_ (w1 := w') (v := (.slice A2 l2.length c2)) rfl rfl rfl (hK.out _ _ ((Fact.seq (Kd.int .u8) l2).mono s2 hg) (Grew.refl _))
    refine gat_cons ?_ ?_
    · intro v w' hg hd
      have h0 : (Fact.seq (Kd.int .u8) (l0.take k)).p (v 0) w' := hd 0 (by kernel_rfl)
      have h1 : (Fact.seq (Kd.int .u8) (l1.take k)).p (v 1) w' := hd 1 (by kernel_rfl)
      have h2 : (Fact.seq (Kd.int .u8) l2).p (v 2) w' := hd 2 (by kernel_rfl)
      clear hd
      refine ⟨_, rfl, fun K hK => ?_⟩
      refine goes_ Try.func22 (by kernel_rfl) rfl #[v 0, v 1, v 2] rfl rfl rfl (by (try simp only [List.map_toArray, List.map_cons, List.map_nil]); first | done | rfl) ?_
      refine (mix_g h0 h1 h2 (bytes_take b0 k) (bytes_take b1 k) b2 (by rw [HY.out.2.1]; omega) (by have := H60.out; omega)).mono ?_
      rintro e w'' ⟨u, rfl, hu, hb⟩
      exact ⟨_, rfl, hK.out _ _ hu hb⟩
    refine gat_cons ?_ ?_
    · intro v w' hg hd
      have h3 : (Fact.seq (Kd.int .u8) (mixI (l0.take k) (l1.take k) l2)).p (v 3) w' := hd 3 (by kernel_rfl)
      clear hd
      refine ⟨_, rfl, fun K hK => ?_⟩
      exact value_ (w1 := w') (v := v 3) rfl rfl rfl (hK.out _ _ h3 (Grew.refl _))
    exact gat_nil
  intro v w3 hg hd
  have h10 : (Fact.seq (Kd.int .u8) (mixI (l0.take k) (l1.take k) l2)).p (v 4) w3 := hd 4 (by decide)
  clear hd
  generalize v 4 = u10 at h10 ⊢
  have G3 := Aside0.mk (G2.out.step hg)
  replace h8 := (Fact.seq (Kd.int .u8) (l0.take k)).mono h8 hg
  replace h9 := (Fact.seq (Kd.int .u8) (l1.take k)).mono h9 hg
  clear G2 hg s2
  have m1 := mixI_length l2 (HY.out.2.1.trans HY.out.2.2.symm)
  have m2 := mixI_bytes l2 (bytes_take b0 k) (bytes_take b1 k)
  rw [HY.out.2.1] at m1
  have MM := Aside0.mk (And.intro m1 m2)
  clear m1 m2
  refine wp_seq ?_
  refine grow_at 40 [(0, 31), (1, 32), (2, 33), (3, 34), (4, 35), (5, 36), (6, 37), (7, 38), (8, 39), (9, 40), (10, 41), (11, 42), (12, 43), (13, 44), (14, 45), (15, 46), (16, 47), (17, 48), (18, 49), (19, 50), (20, 51), (21, 52), (22, 53), (23, 54), (24, 55), (25, 56), (26, 57), (27, 58), (28, 59), (29, 60), (30, 61), (31, 62), (32, 63), (33, 64), (34, 65), (35, 66), (36, 67), (37, 68), (38, 69), (39, 6)] (fun i => [Fact.seq (Kd.int .u8) (l0.take k), Fact.seq (Kd.int .u8) (l1.take k), Fact.seq (Kd.int .u8) (mixI (l0.take k) (l1.take k) []), Fact.is (.string (strOfNums (mixI (l0.take k) (l1.take k) []))), Fact.seq (Kd.int .u8) (l0.take k), Fact.is (.string (strOfNums (l0.take k))), Fact.is (.bool true), Fact.is (.bool true), Fact.seq (Kd.int .u8) (l0.take k), Fact.seq (Kd.int .u8) (l1.take k), Fact.seq (Kd.int .u8) [255], Fact.seq (Kd.int .u8) (mixI (l0.take k) (l1.take k) [255]), Fact.is (.string (strOfNums (mixI (l0.take k) (l1.take k) [255]))), Fact.seq (Kd.int .u8) (l1.take k), Fact.is (.string (strOfNums (l1.take k))), Fact.is (.bool true), Fact.is (.bool true), Fact.is (.bool true), Fact.seq (Kd.int .u8) (mixI (l0.take k) (l1.take k) l2), Fact.is (.int .i64 ((mixI (l0.take k) (l1.take k) l2).length : Int)), Fact.is (.int .i64 (k : Int)), Fact.is (.bool true), Fact.is (.bool true), Fact.is (.bool true), Fact.seq (Kd.int .u8) (l0.take k), Fact.seq (Kd.int .u8) (mixI (l0.take k) (l1.take k) l2), Fact.seq (Kd.int .i64) (apartI (l0.take k) (mixI (l0.take k) (l1.take k) l2)), Fact.is (.int .i64 ((apartI (l0.take k) (mixI (l0.take k) (l1.take k) l2)).length : Int)), Fact.seq (Kd.int .u8) (mixI (l0.take k) (l1.take k) l2), Fact.seq (Kd.int .u8) (l1.take k), Fact.seq (Kd.int .i64) (apartI (mixI (l0.take k) (l1.take k) l2) (l1.take k)), Fact.is (.int .i64 ((apartI (mixI (l0.take k) (l1.take k) l2) (l1.take k)).length : Int)), Fact.is (.int .i64 ((apartI (l0.take k) (l1.take k)).length : Int)), Fact.seq (Kd.int .u8) (l0.take k), Fact.seq (Kd.int .u8) (l1.take k), Fact.seq (Kd.int .i64) (apartI (l0.take k) (l1.take k)), Fact.is (.int .i64 ((apartI (l0.take k) (l1.take k)).length : Int)), Fact.is (.bool true), Fact.is (.bool true), Fact.is (.bool true)].getD i Fact.any) ?_ [0, 1, 2, 3, 4, 5, 6, 7, 8, 9, 10, 11, 12, 13, 14, 15, 16, 17, 18, 19, 20, 21, 22, 23, 24, 25, 26, 27, 28, 29, 30, 31, 32, 33, 34, 35, 36, 37, 38, 39] (by kernel_rfl) (B := [0, 0, 3, 7, 0, 16, 63, 127, 255, 255, 255, 2047, 4095, 255, 8447, 32767, 65535, 131071, 262143, 524287, 262143, 2097151, 4194303, 8388607, 16777215, 16777215, 67108863, 134217727, 16777215, 16777215, 939524095, 2013265919, 4294967295, 16777215, 16777215, 27783069695, 62142808063, 137438953471, 274877906943, 549755813887]) rfl (by kernel_rfl) (by kernel_rfl) (by kernel_rfl) (by kernel_rfl) rfl ?_ ?_ ?_
  rotate_left
  · intro v
    simp only [filled, Act.put, List.setIfInBounds_toArray, List.set_cons_zero, List.set_cons_succ]
    rfl
  rotate_left
  rotate_right
  · skip
    refine gat_cons ?_ ?_
    · intro v w' hg hd
      clear hd
      refine ⟨_, rfl, fun K hK => ?_⟩
      exact value_ (w1 := w') (v := (u8)) rfl rfl rfl (hK.out _ _ ((Fact.seq (Kd.int .u8) (l0.take k)).mono h8 hg) (Grew.refl _))
    refine gat_cons ?_ ?_
    · intro v w' hg hd
      clear hd
      refine ⟨_, rfl, fun K hK => ?_⟩
      exact value_ (w1 := w') (v := (u9)) rfl rfl rfl (hK.out _ _ ((Fact.seq (Kd.int .u8) (l1.take k)).mono h9 hg) (Grew.refl _))
    refine gat_cons ?_ ?_
    · intro v w' hg hd
      have h0 : (Fact.seq (Kd.int .u8) (l0.take k)).p (v 0) w' := hd 0 (by kernel_rfl)
      have h1 : (Fact.seq (Kd.int .u8) (l1.take k)).p (v 1) w' := hd 1 (by kernel_rfl)
      clear hd
      refine ⟨_, rfl, fun K hK => ?_⟩
      refine goes_ Try.func22 (by kernel_rfl) rfl #[v 0, v 1, (Value.slice none 0 0)] rfl rfl rfl (by (try simp only [List.map_toArray, List.map_cons, List.map_nil]); first | done | rfl) ?_
      refine (mix_g h0 h1 seq_nil (bytes_take b0 k) (bytes_take b1 k) rfl (by rw [HY.out.2.1]; omega) (by decide)).mono ?_
      rintro e w'' ⟨u, rfl, hu, hb⟩
      exact ⟨_, rfl, hK.out _ _ hu hb⟩
    refine gat_cons ?_ ?_
    · intro v w' hg hd
      have h2 : (Fact.seq (Kd.int .u8) (mixI (l0.take k) (l1.take k) [])).p (v 2) w' := hd 2 (by kernel_rfl)
      clear hd
      refine ⟨_, rfl, fun K hK => ?_⟩
      obtain ⟨A_, c_, e_, _, C_⟩ : (Fact.seq (Kd.int .u8) (mixI (l0.take k) (l1.take k) [])).p (v 2) w' := h2
      have hcv := Kd.C_string (P := Try.prog) (A := A_) (c := c_) Try.underlying28 Try.underlying5 Try.underlying9 C_
      refine value_ (w1 := w') (v := .string (strOfNums (mixI (l0.take k) (l1.take k) []))) rfl rfl ?_ (hK.out _ _ rfl (Grew.refl _))
      clear hK C_
      generalize ((mixI (l0.take k) (l1.take k) [])).length = n_ at e_ hcv
      go_simp
      (try rfl)
    refine gat_cons ?_ ?_
    · intro v w' hg hd
      clear hd
      refine ⟨_, rfl, fun K hK => ?_⟩
      exact value_ (w1 := w') (v := (u8)) rfl rfl rfl (hK.out _ _ ((Fact.seq (Kd.int .u8) (l0.take k)).mono h8 hg) (Grew.refl _))
    refine gat_cons ?_ ?_
    · intro v w' hg hd
      have h4 : (Fact.seq (Kd.int .u8) (l0.take k)).p (v 4) w' := hd 4 (by kernel_rfl)
      clear hd
      refine ⟨_, rfl, fun K hK => ?_⟩
      obtain ⟨A_, c_, e_, _, C_⟩ : (Fact.seq (Kd.int .u8) (l0.take k)).p (v 4) w' := h4
      have hcv := Kd.C_string (P := Try.prog) (A := A_) (c := c_) Try.underlying28 Try.underlying5 Try.underlying9 C_
      refine value_ (w1 := w') (v := .string (strOfNums (l0.take k))) rfl rfl ?_ (hK.out _ _ rfl (Grew.refl _))
      clear hK C_
      generalize ((l0.take k)).length = n_ at e_ hcv
      go_simp
      (try rfl)
    refine gat_cons ?_ ?_
    · intro v w' hg hd
      have h3 : v 3 = .string (strOfNums (mixI (l0.take k) (l1.take k) [])) := hd 3 (by kernel_rfl)
      have h5 : v 5 = .string (strOfNums (l0.take k)) := hd 5 (by kernel_rfl)
      clear hd
      refine ⟨_, rfl, fun K hK => ?_⟩
      refine value_ (w1 := w') (v := .bool true) rfl rfl ?_ (hK.out _ _ rfl (Grew.refl _))
      clear hK
      go_simp
      (try (simp [HX.out.1.1]))
    refine gat_cons ?_ ?_
    · intro v w' hg hd
      have h6 : v 6 = .bool true := hd 6 (by kernel_rfl)
      clear hd
      refine ⟨_, rfl, fun K hK => ?_⟩
      exact value_ (w1 := w') (v := v 6) rfl rfl rfl (hK.out _ _ h6 (Grew.refl _))
    refine gat_cons ?_ ?_
    · intro v w' hg hd
      have h7 : v 7 = .bool true := hd 7 (by kernel_rfl)
      clear hd
      refine ⟨_, rfl, fun K hK => ?_⟩
      exact value_ (w1 := w') (v := (u8)) (wanted_on rfl rfl rfl (by show some (v 7) = _; rw [h7])) rfl rfl (hK.out _ _ ((Fact.seq (Kd.int .u8) (l0.take k)).mono h8 hg) (Grew.refl _))
    refine gat_cons ?_ ?_
    · intro v w' hg hd
      have h7 : v 7 = .bool true := hd 7 (by kernel_rfl)
      clear hd
      refine ⟨_, rfl, fun K hK => ?_⟩
      exact value_ (w1 := w') (v := (u9)) (wanted_on rfl rfl rfl (by show some (v 7) = _; rw [h7])) rfl rfl (hK.out _ _ ((Fact.seq (Kd.int .u8) (l1.take k)).mono h9 hg) (Grew.refl _))
    refine gat_cons ?_ ?_
    · intro v w' hg hd
      have h7 : v 7 = .bool true := hd 7 (by kernel_rfl)
      clear hd
      refine ⟨_, rfl, fun K hK => ?_⟩
      refine Kd.R_lit_step (Kd.int .u8) w'.heap.size 5 (wanted_on rfl rfl rfl (by show some (v 7) = _; rw [h7])) (N := 41) rfl (xs := ([255] : List Int)) (inner := [(.int .u8 (255))]) (ok := fun _ => True) (okp := fun _ => True) ?_ (Reps.one (show Kd.M (Kd.int .u8) _ _ _ (255) [(.int .u8 (255))] from rfl) (Reps.none _ _)) (fun _ _ => trivial) trivial (Below.refl _ _) (Nat.le_refl _) (by simp) ?_
      · clear hK
        go_simp
        (try rfl)
      · intro v1 w1 hR hb _ _
        exact hK.out _ _ (seq_of_R hR) hb
    refine gat_cons ?_ ?_
    · intro v w' hg hd
      have h7 : v 7 = .bool true := hd 7 (by kernel_rfl)
      have h8 : (Fact.seq (Kd.int .u8) (l0.take k)).p (v 8) w' := hd 8 (by kernel_rfl)
      have h9 : (Fact.seq (Kd.int .u8) (l1.take k)).p (v 9) w' := hd 9 (by kernel_rfl)
      have h10 : (Fact.seq (Kd.int .u8) [255]).p (v 10) w' := hd 10 (by kernel_rfl)
      clear hd
      refine ⟨_, rfl, fun K hK => ?_⟩
      refine goes_ Try.func22 (by kernel_rfl) rfl #[v 8, v 9, v 10] (wanted_on rfl rfl rfl (by show some (v 7) = _; rw [h7])) rfl rfl (by (try simp only [List.map_toArray, List.map_cons, List.map_nil]); first | done | rfl) ?_
      refine (mix_g h8 h9 h10 (bytes_take b0 k) (bytes_take b1 k) (by decide) (by rw [HY.out.2.1]; omega) (by decide)).mono ?_
      rintro e w'' ⟨u, rfl, hu, hb⟩
      exact ⟨_, rfl, hK.out _ _ hu hb⟩
    refine gat_cons ?_ ?_
    · intro v w' hg hd
      have h7 : v 7 = .bool true := hd 7 (by kernel_rfl)
      have h11 : (Fact.seq (Kd.int .u8) (mixI (l0.take k) (l1.take k) [255])).p (v 11) w' := hd 11 (by kernel_rfl)
      clear hd
      refine ⟨_, rfl, fun K hK => ?_⟩
      obtain ⟨A_, c_, e_, _, C_⟩ : (Fact.seq (Kd.int .u8) (mixI (l0.take k) (l1.take k) [255])).p (v 11) w' := h11
      have hcv := Kd.C_string (P := Try.prog) (A := A_) (c := c_) Try.underlying28 Try.underlying5 Try.underlying9 C_
      refine value_ (w1 := w') (v := .string (strOfNums (mixI (l0.take k) (l1.take k) [255]))) (wanted_on rfl rfl rfl (by show some (v 7) = _; rw [h7])) rfl ?_ (hK.out _ _ rfl (Grew.refl _))
      clear hK C_
      generalize ((mixI (l0.take k) (l1.take k) [255])).length = n_ at e_ hcv
      go_simp
      (try rfl)
    refine gat_cons ?_ ?_
    · intro v w' hg hd
      have h7 : v 7 = .bool true := hd 7 (by kernel_rfl)
      clear hd
      refine ⟨_, rfl, fun K hK => ?_⟩
      exact value_ (w1 := w') (v := (u9)) (wanted_on rfl rfl rfl (by show some (v 7) = _; rw [h7])) rfl rfl (hK.out _ _ ((Fact.seq (Kd.int .u8) (l1.take k)).mono h9 hg) (Grew.refl _))
    refine gat_cons ?_ ?_
    · intro v w' hg hd
      have h7 : v 7 = .bool true := hd 7 (by kernel_rfl)
      have h13 : (Fact.seq (Kd.int .u8) (l1.take k)).p (v 13) w' := hd 13 (by kernel_rfl)
      clear hd
      refine ⟨_, rfl, fun K hK => ?_⟩
      obtain ⟨A_, c_, e_, _, C_⟩ : (Fact.seq (Kd.int .u8) (l1.take k)).p (v 13) w' := h13
      have hcv := Kd.C_string (P := Try.prog) (A := A_) (c := c_) Try.underlying28 Try.underlying5 Try.underlying9 C_
      refine value_ (w1 := w') (v := .string (strOfNums (l1.take k))) (wanted_on rfl rfl rfl (by show some (v 7) = _; rw [h7])) rfl ?_ (hK.out _ _ rfl (Grew.refl _))
      clear hK C_
      generalize ((l1.take k)).length = n_ at e_ hcv
      go_simp
      (try rfl)
    refine gat_cons ?_ ?_
    · intro v w' hg hd
      have h7 : v 7 = .bool true := hd 7 (by kernel_rfl)
      have h12 : v 12 = .string (strOfNums (mixI (l0.take k) (l1.take k) [255])) := hd 12 (by kernel_rfl)
      have h14 : v 14 = .string (strOfNums (l1.take k)) := hd 14 (by kernel_rfl)
      clear hd
      refine ⟨_, rfl, fun K hK => ?_⟩
      refine value_ (w1 := w') (v := .bool true) (wanted_on rfl rfl rfl (by show some (v 7) = _; rw [h7])) rfl ?_ (hK.out _ _ rfl (Grew.refl _))
      clear hK
      go_simp
      (try (simp [HX.out.1.2]))
    refine gat_cons ?_ ?_
    · intro v w' hg hd
      have h7 : v 7 = .bool true := hd 7 (by kernel_rfl)
      have h15 : v 15 = .bool true := hd 15 (by kernel_rfl)
      clear hd
      refine ⟨_, rfl, fun K hK => ?_⟩
      refine value_ (w1 := w') (v := .bool true) rfl rfl ?_ (hK.out _ _ rfl (Grew.refl _))
      clear hK
      go_simp
      (try rfl)
    refine gat_cons ?_ ?_
    · intro v w' hg hd
      have h16 : v 16 = .bool true := hd 16 (by kernel_rfl)
      clear hd
      refine ⟨_, rfl, fun K hK => ?_⟩
      exact value_ (w1 := w') (v := v 16) rfl rfl rfl (hK.out _ _ h16 (Grew.refl _))
    refine gat_cons ?_ ?_
    · intro v w' hg hd
      have h17 : v 17 = .bool true := hd 17 (by kernel_rfl)
      clear hd
      refine ⟨_, rfl, fun K hK => ?_⟩
      exact value_ (w1 := w') (v := (u10)) (wanted_on rfl rfl rfl (by show some (v 17) = _; rw [h17])) rfl rfl (hK.out _ _ ((Fact.seq (Kd.int .u8) (mixI (l0.take k) (l1.take k) l2)).mono h10 hg) (Grew.refl _))
    refine gat_cons ?_ ?_
    · intro v w' hg hd
      have h17 : v 17 = .bool true := hd 17 (by kernel_rfl)
      have h18 : (Fact.seq (Kd.int .u8) (mixI (l0.take k) (l1.take k) l2)).p (v 18) w' := hd 18 (by kernel_rfl)
      clear hd
      refine ⟨_, rfl, fun K hK => ?_⟩
      obtain ⟨A_, c_, e_, _, _⟩ : (Fact.seq (Kd.int .u8) (mixI (l0.take k) (l1.take k) l2)).p (v 18) w' := h18
      refine value_ (w1 := w') (v := .int .i64 ((mixI (l0.take k) (l1.take k) l2).length : Int)) (wanted_on rfl rfl rfl (by show some (v 17) = _; rw [h17])) rfl ?_ (hK.out _ _ rfl (Grew.refl _))
      clear hK
      generalize ((mixI (l0.take k) (l1.take k) l2)).length = n_ at e_ ⊢
      go_simp
      (try rfl)
    refine gat_cons ?_ ?_
    · intro v w' hg hd
      have h17 : v 17 = .bool true := hd 17 (by kernel_rfl)
      clear hd
      refine ⟨_, rfl, fun K hK => ?_⟩
      exact value_ (w1 := w') (v := (.int .i64 (k : Int))) (wanted_on rfl rfl rfl (by show some (v 17) = _; rw [h17])) rfl rfl (hK.out _ _ rfl (Grew.refl _))
    refine gat_cons ?_ ?_
    · intro v w' hg hd
      have h17 : v 17 = .bool true := hd 17 (by kernel_rfl)
      have h19 : v 19 = .int .i64 ((mixI (l0.take k) (l1.take k) l2).length : Int) := hd 19 (by kernel_rfl)
      have h20 : v 20 = .int .i64 (k : Int) := hd 20 (by kernel_rfl)
      clear hd
      refine ⟨_, rfl, fun K hK => ?_⟩
      refine value_ (w1 := w') (v := .bool true) (wanted_on rfl rfl rfl (by show some (v 17) = _; rw [h17])) rfl ?_ (hK.out _ _ rfl (Grew.refl _))
      clear hK
      go_simp
      (try (simp [MM.out.1]))
    refine gat_cons ?_ ?_
    · intro v w' hg hd
      have h17 : v 17 = .bool true := hd 17 (by kernel_rfl)
      have h21 : v 21 = .bool true := hd 21 (by kernel_rfl)
      clear hd
      refine ⟨_, rfl, fun K hK => ?_⟩
      refine value_ (w1 := w') (v := .bool true) rfl rfl ?_ (hK.out _ _ rfl (Grew.refl _))
      clear hK
      go_simp
      (try rfl)
    refine gat_cons ?_ ?_
    · intro v w' hg hd
      have h22 : v 22 = .bool true := hd 22 (by kernel_rfl)
      clear hd
      refine ⟨_, rfl, fun K hK => ?_⟩
      exact value_ (w1 := w') (v := v 22) rfl rfl rfl (hK.out _ _ h22 (Grew.refl _))
    refine gat_cons ?_ ?_
    · intro v w' hg hd
      have h23 : v 23 = .bool true := hd 23 (by kernel_rfl)
      clear hd
      refine ⟨_, rfl, fun K hK => ?_⟩
      exact value_ (w1 := w') (v := (u8)) (wanted_on rfl rfl rfl (by show some (v 23) = _; rw [h23])) rfl rfl (hK.out _ _ ((Fact.seq (Kd.int .u8) (l0.take k)).mono h8 hg) (Grew.refl _))
    refine gat_cons ?_ ?_
    · intro v w' hg hd
      have h23 : v 23 = .bool true := hd 23 (by kernel_rfl)
      clear hd
      refine ⟨_, rfl, fun K hK => ?_⟩
      exact value_ (w1 := w') (v := (u10)) (wanted_on rfl rfl rfl (by show some (v 23) = _; rw [h23])) rfl rfl (hK.out _ _ ((Fact.seq (Kd.int .u8) (mixI (l0.take k) (l1.take k) l2)).mono h10 hg) (Grew.refl _))
    refine gat_cons ?_ ?_
    · intro v w' hg hd
      have h23 : v 23 = .bool true := hd 23 (by kernel_rfl)
      have h24 : (Fact.seq (Kd.int .u8) (l0.take k)).p (v 24) w' := hd 24 (by kernel_rfl)
      have h25 : (Fact.seq (Kd.int .u8) (mixI (l0.take k) (l1.take k) l2)).p (v 25) w' := hd 25 (by kernel_rfl)
      clear hd
      refine ⟨_, rfl, fun K hK => ?_⟩
      refine goes_ Try.func19 (by kernel_rfl) rfl #[v 24, v 25] (wanted_on rfl rfl rfl (by show some (v 23) = _; rw [h23])) rfl rfl (by (try simp only [List.map_toArray, List.map_cons, List.map_nil]); first | done | rfl) ?_
      refine (apart_g h24 h25 (bytes_take b0 k) MM.out.2 (by rw [HY.out.2.1]; omega) (HY.out.2.1.trans MM.out.1.symm)).mono ?_
      rintro e w'' ⟨u, rfl, hu, hb⟩
      exact ⟨_, rfl, hK.out _ _ hu hb⟩
    refine gat_cons ?_ ?_
    · intro v w' hg hd
      have h23 : v 23 = .bool true := hd 23 (by kernel_rfl)
      have h26 : (Fact.seq (Kd.int .i64) (apartI (l0.take k) (mixI (l0.take k) (l1.take k) l2))).p (v 26) w' := hd 26 (by kernel_rfl)
      clear hd
      refine ⟨_, rfl, fun K hK => ?_⟩
      obtain ⟨A_, c_, e_, _, _⟩ : (Fact.seq (Kd.int .i64) (apartI (l0.take k) (mixI (l0.take k) (l1.take k) l2))).p (v 26) w' := h26
      refine value_ (w1 := w') (v := .int .i64 ((apartI (l0.take k) (mixI (l0.take k) (l1.take k) l2)).length : Int)) (wanted_on rfl rfl rfl (by show some (v 23) = _; rw [h23])) rfl ?_ (hK.out _ _ rfl (Grew.refl _))
      clear hK
      generalize ((apartI (l0.take k) (mixI (l0.take k) (l1.take k) l2))).length = n_ at e_ ⊢
      go_simp
      (try rfl)
    refine gat_cons ?_ ?_
    · intro v w' hg hd
      have h23 : v 23 = .bool true := hd 23 (by kernel_rfl)
      clear hd
      refine ⟨_, rfl, fun K hK => ?_⟩
      exact value_ (w1 := w') (v := (u10)) (wanted_on rfl rfl rfl (by show some (v 23) = _; rw [h23])) rfl rfl (hK.out _ _ ((Fact.seq (Kd.int .u8) (mixI (l0.take k) (l1.take k) l2)).mono h10 hg) (Grew.refl _))
    refine gat_cons ?_ ?_
    · intro v w' hg hd
      have h23 : v 23 = .bool true := hd 23 (by kernel_rfl)
      clear hd
      refine ⟨_, rfl, fun K hK => ?_⟩
      exact value_ (w1 := w') (v := (u9)) (wanted_on rfl rfl rfl (by show some (v 23) = _; rw [h23])) rfl rfl (hK.out _ _ ((Fact.seq (Kd.int .u8) (l1.take k)).mono h9 hg) (Grew.refl _))
    refine gat_cons ?_ ?_
    · intro v w' hg hd
      have h23 : v 23 = .bool true := hd 23 (by kernel_rfl)
      have h28 : (Fact.seq (Kd.int .u8) (mixI (l0.take k) (l1.take k) l2)).p (v 28) w' := hd 28 (by kernel_rfl)
      have h29 : (Fact.seq (Kd.int .u8) (l1.take k)).p (v 29) w' := hd 29 (by kernel_rfl)
      clear hd
      refine ⟨_, rfl, fun K hK => ?_⟩
      refine goes_ Try.func19 (by kernel_rfl) rfl #[v 28, v 29] (wanted_on rfl rfl rfl (by show some (v 23) = _; rw [h23])) rfl rfl (by (try simp only [List.map_toArray, List.map_cons, List.map_nil]); first | done | rfl) ?_
      refine (apart_g h28 h29 MM.out.2 (bytes_take b1 k) (by rw [MM.out.1]; omega) (MM.out.1.trans HY.out.2.2.symm)).mono ?_
      rintro e w'' ⟨u, rfl, hu, hb⟩
      exact ⟨_, rfl, hK.out _ _ hu hb⟩
    refine gat_cons ?_ ?_
    · intro v w' hg hd
      have h23 : v 23 = .bool true := hd 23 (by kernel_rfl)
      have h30 : (Fact.seq (Kd.int .i64) (apartI (mixI (l0.take k) (l1.take k) l2) (l1.take k))).p (v 30) w' := hd 30 (by kernel_rfl)
      clear hd
      refine ⟨_, rfl, fun K hK => ?_⟩
      obtain ⟨A_, c_, e_, _, _⟩ : (Fact.seq (Kd.int .i64) (apartI (mixI (l0.take k) (l1.take k) l2) (l1.take k))).p (v 30) w' := h30
      refine value_ (w1 := w') (v := .int .i64 ((apartI (mixI (l0.take k) (l1.take k) l2) (l1.take k)).length : Int)) (wanted_on rfl rfl rfl (by show some (v 23) = _; rw [h23])) rfl ?_ (hK.out _ _ rfl (Grew.refl _))
      clear hK
      generalize ((apartI (mixI (l0.take k) (l1.take k) l2) (l1.take k))).length = n_ at e_ ⊢
      go_simp
      (try rfl)
    refine gat_cons ?_ ?_
    · intro v w' hg hd
      have h23 : v 23 = .bool true := hd 23 (by kernel_rfl)
      have h27 : v 27 = .int .i64 ((apartI (l0.take k) (mixI (l0.take k) (l1.take k) l2)).length : Int) := hd 27 (by kernel_rfl)
      have h31 : v 31 = .int .i64 ((apartI (mixI (l0.take k) (l1.take k) l2) (l1.take k)).length : Int) := hd 31 (by kernel_rfl)
      clear hd
      refine ⟨_, rfl, fun K hK => ?_⟩
      refine value_ (w1 := w') (v := .int .i64 ((apartI (l0.take k) (l1.take k)).length : Int)) (wanted_on rfl rfl rfl (by show some (v 23) = _; rw [h23])) rfl ?_ (hK.out _ _ rfl (Grew.refl _))
      clear hK
      go_simp
      (try ((have h1_ := HX.out.2.1; have h2_ := HX.out.2.2; rw [h1_, IntKind.wrap_i64]; omega)))
    refine gat_cons ?_ ?_
    · intro v w' hg hd
      have h23 : v 23 = .bool true := hd 23 (by kernel_rfl)
      clear hd
      refine ⟨_, rfl, fun K hK => ?_⟩
      exact value_ (w1 := w') (v := (u8)) (wanted_on rfl rfl rfl (by show some (v 23) = _; rw [h23])) rfl rfl (hK.out _ _ ((Fact.seq (Kd.int .u8) (l0.take k)).mono h8 hg) (Grew.refl _))
    refine gat_cons ?_ ?_
    · intro v w' hg hd
      have h23 : v 23 = .bool true := hd 23 (by kernel_rfl)
      clear hd
      refine ⟨_, rfl, fun K hK => ?_⟩
      exact value_ (w1 := w') (v := (u9)) (wanted_on rfl rfl rfl (by show some (v 23) = _; rw [h23])) rfl rfl (hK.out _ _ ((Fact.seq (Kd.int .u8) (l1.take k)).mono h9 hg) (Grew.refl _))
    refine gat_cons ?_ ?_
    · intro v w' hg hd
      have h23 : v 23 = .bool true := hd 23 (by kernel_rfl)
      have h33 : (Fact.seq (Kd.int .u8) (l0.take k)).p (v 33) w' := hd 33 (by kernel_rfl)
      have h34 : (Fact.seq (Kd.int .u8) (l1.take k)).p (v 34) w' := hd 34 (by kernel_rfl)
      clear hd
      refine ⟨_, rfl, fun K hK => ?_⟩
      refine goes_ Try.func19 (by kernel_rfl) rfl #[v 33, v 34] (wanted_on rfl rfl rfl (by show some (v 23) = _; rw [h23])) rfl rfl (by (try simp only [List.map_toArray, List.map_cons, List.map_nil]); first | done | rfl) ?_
      refine (apart_g h33 h34 (bytes_take b0 k) (bytes_take b1 k) (by rw [HY.out.2.1]; omega) (HY.out.2.1.trans HY.out.2.2.symm)).mono ?_
      rintro e w'' ⟨u, rfl, hu, hb⟩
      exact ⟨_, rfl, hK.out _ _ hu hb⟩
    refine gat_cons ?_ ?_
    · intro v w' hg hd
      have h23 : v 23 = .bool true := hd 23 (by kernel_rfl)
      have h35 : (Fact.seq (Kd.int .i64) (apartI (l0.take k) (l1.take k))).p (v 35) w' := hd 35 (by kernel_rfl)
      clear hd
      refine ⟨_, rfl, fun K hK => ?_⟩
      obtain ⟨A_, c_, e_, _, _⟩ : (Fact.seq (Kd.int .i64) (apartI (l0.take k) (l1.take k))).p (v 35) w' := h35
      refine value_ (w1 := w') (v := .int .i64 ((apartI (l0.take k) (l1.take k)).length : Int)) (wanted_on rfl rfl rfl (by show some (v 23) = _; rw [h23])) rfl ?_ (hK.out _ _ rfl (Grew.refl _))
      clear hK
      generalize ((apartI (l0.take k) (l1.take k))).length = n_ at e_ ⊢
      go_simp
      (try rfl)
    refine gat_cons ?_ ?_
    · intro v w' hg hd
      have h23 : v 23 = .bool true := hd 23 (by kernel_rfl)
      have h32 : v 32 = .int .i64 ((apartI (l0.take k) (l1.take k)).length : Int) := hd 32 (by kernel_rfl)
      have h36 : v 36 = .int .i64 ((apartI (l0.take k) (l1.take k)).length : Int) := hd 36 (by kernel_rfl)
      clear hd
      refine ⟨_, rfl, fun K hK => ?_⟩
      refine value_ (w1 := w') (v := .bool true) (wanted_on rfl rfl rfl (by show some (v 23) = _; rw [h23])) rfl ?_ (hK.out _ _ rfl (Grew.refl _))
      clear hK
      go_simp
      (try (simp))
    refine gat_cons ?_ ?_
    · intro v w' hg hd
      have h23 : v 23 = .bool true := hd 23 (by kernel_rfl)
      have h37 : v 37 = .bool true := hd 37 (by kernel_rfl)
      clear hd
      refine ⟨_, rfl, fun K hK => ?_⟩
      refine value_ (w1 := w') (v := .bool true) rfl rfl ?_ (hK.out _ _ rfl (Grew.refl _))
      clear hK
      go_simp
      (try rfl)
    refine gat_cons ?_ ?_
    · intro v w' hg hd
      have h38 : v 38 = .bool true := hd 38 (by kernel_rfl)
      clear hd
      refine ⟨_, rfl, fun K hK => ?_⟩
      exact value_ (w1 := w') (v := v 38) rfl rfl rfl (hK.out _ _ h38 (Grew.refl _))
    exact gat_nil
  intro v w4 hg hd
  have h6 : v 39 = .bool true := hd 39 (by decide)
  clear hd
  generalize v 39 = u6 at h6 ⊢
  subst h6
  have G4 := G3.out.step hg
  clear G3 hg
  try go_wp2
  go_ret
  exact ⟨rfl, G4⟩
theorem filter_sum {f g h : Nat → Bool} : ∀ l : List Nat, (∀ q ∈ l, (f q = h q ∧ g q = false) ∨ (f q = false ∧ g q = h q)) → (l.filter f).length + (l.filter g).length = (l.filter h).length
  | [], _ => rfl
  | q :: r, hq => by
    have ih := filter_sum r (fun x hx => hq x (List.mem_cons_of_mem _ hx))
    rw [List.filter_cons, List.filter_cons, List.filter_cons]
    rcases hq q List.mem_cons_self with ⟨h1, h2⟩ | ⟨h1, h2⟩
    · rw [h1, h2]; cases h q <;> simp <;> omega
    · rw [h1, h2]; cases h q <;> simp <;> omega
theorem apart_mix {a b m : List Nat} (hm : Bytes m) (h : a.length = b.length) : (apartL a (mixL a b m)).length + (apartL (mixL a b m) b).length = (apartL a b).length := by
  have l1 := mixL_length m h
  unfold apartL
  rw [int_length, int_length, int_length]
  unfold onesL onesTo
  rw [xorL_length l1.symm, xorL_length (l1.trans h), xorL_length h, l1]
  refine filter_sum _ (fun q hq => ?_)
  rw [bit_xorL l1.symm, bit_xorL (l1.trans h), bit_xorL h, bit_mixL hm h q (List.mem_range.1 hq)]
  cases maskAt m q
  · right; simp
  · left; simp
theorem mask_all {a b : List Nat} (ha : Bytes a) (hb : Bytes b) (h : a.length = b.length) : mixL a b [255] = b := by
  have hM : Bytes [255] := by intro x hx; rw [List.mem_singleton] at hx; omega
  refine bytes_ext (mixL_bytes _ ha hb) hb ((mixL_length _ h).trans h) (fun q hq => ?_)
  rw [mixL_length _ h] at hq
  have : ∀ i < 8, Nat.testBit 255 i = true := by decide
  rw [bit_mixL hM h q hq, maskAt_one, this _ (Nat.mod_lt _ (by decide)), if_pos rfl]
theorem apartI_length' (a b : List Int) (h : a.length = b.length) : (apartI a b).length ≤ 8 * a.length := by
  unfold apartI apartL
  rw [int_length]
  have := onesL_length (xorL (nat a) (nat b))
  rw [xorL_length (by rw [nat_length, nat_length, h]), nat_length] at this
  exact this
theorem bmix_total (A0 : Option Addr) (c0 : Nat) (l0 : List Int) (A1 : Option Addr) (c1 : Nat) (l1 : List Int) (A2 : Option Addr) (c2 : Nat) (l2 : List Int) (w : World) (hr0 : Kd.C (Kd.int .u8) w A0 l0.length l0) (hc0 : l0.length ≤ c0) (hr1 : Kd.C (Kd.int .u8) w A1 l1.length l1) (hc1 : l1.length ≤ c1) (hr2 : Kd.C (Kd.int .u8) w A2 l2.length l2) (hc2 : l2.length ≤ c2)
    (b0 : bytesB l0 = true) (b1 : bytesB l1 = true) (b2 : bytesB l2 = true) :
    Calls Try.prog 7 #[.slice A0 l0.length c0, .slice A1 l1.length c1, .slice A2 l2.length c2] w fun e w' => e = .returned (.bool true) ∧ Below w.heap.size w w' := by
  have hl : (l0.take (min (min l0.length l1.length) 60)).length = (l1.take (min (min l0.length l1.length) 60)).length := by rw [List.length_take, List.length_take]; omega
  have hn : (nat (l0.take (min (min l0.length l1.length) 60))).length = (nat (l1.take (min (min l0.length l1.length) 60))).length := by rw [nat_length, nat_length, hl]
  refine bmix_calls A0 c0 l0 A1 c1 l1 A2 c2 l2 w hr0 hc0 hr1 hc1 hr2 hc2 b0 b1 b2 _ _ rfl rfl ?_ ?_ ?_ ?_
  · unfold mixI mixL
    rw [if_pos hn, if_pos (by rfl), int_nat (bytes_take b0 _)]
  · unfold mixI
    rw [show nat [255] = [255] from rfl, mask_all (nat_mem_lt (bytes_take b0 _)) (nat_mem_lt (bytes_take b1 _)) hn, int_nat (bytes_take b1 _)]
  · have := apart_mix (nat_mem_lt b2) hn
    unfold apartI mixI
    rw [nat_int]
    omega
  · have := apartI_length' _ _ hl
    rw [List.length_take] at this
    omega
end Go.Proofs.YtnlbekdjepkhcaaBM
