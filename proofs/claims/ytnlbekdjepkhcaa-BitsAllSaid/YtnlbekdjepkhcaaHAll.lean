import Derived.Test.YtnlbekdjepkhcaaBtR
import Derived.Test.YtnlbekdjepkhcaaGapp
set_option linter.unusedSimpArgs false
set_option linter.unusedVariables false
namespace Go.Proofs.YtnlbekdjepkhcaaBM
open Go.RowKit Go.Proofs.YtnlbekdjepkhcaaW.PrintWords Go.Proofs.YtnlbekdjepkhcaaW.PrintLast Go.Proofs.YtnlbekdjepkhcaaW.PrintMore Go.Proofs.YtnlbekdjepkhcaaG Ram
attribute [local go_sem] max2_int min2_int max_two min_two max_three min_three max_four min_four

theorem info_elt28 : (Try.prog.info? 5).map (fun i => (i.zero, i.size, i.bytes)) = some (some (.int .u8 0), 1, 1) := by kernel_rfl
def apartG (a b : List Int) : List Int := if a.length = b.length then apartI a b else []
theorem apartG_g {w : World} {u0 u1 : Value} {l0 l1 : List Int} (h0 : (Fact.seq (Kd.int .u8) l0).p u0 w) (h1 : (Fact.seq (Kd.int .u8) l1).p u1 w)
    (b0 : bytesB l0 = true) (b1 : bytesB l1 = true) (n0 : l0.length < 1000000000000) :
    Calls Try.prog 19 #[u0, u1] w fun e w' => ∃ u, e = .returned u ∧ (Fact.seq (Kd.int .i64) (apartG l0 l1)).p u w' ∧ Grew w w' := by
  unfold apartG
  by_cases he : l0.length = l1.length
  · rw [if_pos he]; exact apart_g h0 h1 b0 b1 n0 he
  · rw [if_neg he]
    obtain ⟨A0, c0, rfl, e0, C0⟩ := h0
    obtain ⟨A1, c1, rfl, e1, C1⟩ := h1
    refine (Go.Proofs.YtnlbekdjepkhcaaS.apart_no A0 c0 l0 A1 c1 l1 w he).mono ?_
    rintro e w' ⟨v, rfl, hR, hb⟩
    exact ⟨_, rfl, seq_of_R hR, hb⟩
theorem refapart_g {w : World} {u0 u1 : Value} {l0 l1 : List Int} (h0 : (Fact.seq (Kd.int .u8) l0).p u0 w) (h1 : (Fact.seq (Kd.int .u8) l1).p u1 w)
    (b0 : bytesB l0 = true) (b1 : bytesB l1 = true) (n0 : l0.length < 100) :
    Calls Try.prog 25 #[u0, u1] w fun e w' => ∃ u, e = .returned u ∧ (Fact.seq (Kd.int .i64) (apartG l0 l1)).p u w' ∧ Grew w w' := by
  obtain ⟨A0, c0, rfl, e0, C0⟩ := h0
  obtain ⟨A1, c1, rfl, e1, C1⟩ := h1
  refine (Go.Proofs.Ytnlbekdjepkhcaa.QG.ramekinref6_Apart.calls (8 * (nat l0).length + 1) A0 c0 l0 A1 c1 l1 (apartG l0 l1) w C0 e0 C1 e1 ?_).mono ?_
  · have := ref_apart_f (nat_mem_lt b0) (nat_mem_lt b1) (by rw [nat_length]; exact n0)
    rw [int_nat b0, int_nat b1] at this
    rw [this]
    unfold apartG apartI
    rw [nat_length, nat_length]
  · rintro e w' ⟨v, rfl, hR, hb⟩
    exact ⟨_, rfl, seq_of_R hR, hb⟩
theorem refones_g {w : World} {u0 : Value} {l0 : List Int} (h0 : (Fact.seq (Kd.int .u8) l0).p u0 w) (b0 : bytesB l0 = true) (n0 : l0.length < 100) :
    Calls Try.prog 26 #[u0] w fun e w' => ∃ u, e = .returned u ∧ (Fact.is (.int .i64 (onesI l0))).p u w' ∧ Grew w w' := by
  obtain ⟨A0, c0, rfl, e0, C0⟩ := h0
  refine (Go.Proofs.Ytnlbekdjepkhcaa.QG.ramekinref6_Ones.calls (8 * (nat l0).length + 1) A0 c0 l0 (onesI l0) w C0 e0 ?_).mono ?_
  · have := ref_ones_f (nat_mem_lt b0) (by rw [nat_length]; exact n0)
    rw [int_nat b0] at this
    exact this
  · rintro e w' ⟨rfl, hb⟩
    exact ⟨_, rfl, rfl, grew_of_drawn hb⟩
theorem refflip_g {w : World} {u0 u1 : Value} {l0 l1 : List Int} (h0 : (Fact.seq (Kd.int .u8) l0).p u0 w) (h1 : (Fact.seq (Kd.int .i64) l1).p u1 w)
    (b0 : bytesB l0 = true) (n0 : l0.length < 100) (n1 : l1.length < 9000000000000000000) (hr : ∀ x ∈ l1, -9223372036854775808 ≤ x ∧ x ≤ 9223372036854775807) :
    Calls Try.prog 27 #[u0, u1] w fun e w' => ∃ u, e = .returned u ∧ (Fact.seq (Kd.int .u8) (flipI l0 l1)).p u w' ∧ Grew w w' := by
  obtain ⟨A0, c0, rfl, e0, C0⟩ := h0
  obtain ⟨A1, c1, rfl, e1, C1⟩ := h1
  refine (Go.Proofs.Ytnlbekdjepkhcaa.QG.ramekinref6_Flip.calls (l1.length + 1) A0 c0 l0 A1 c1 l1 (flipI l0 l1) w C0 e0 C1 e1 ?_).mono ?_
  · have := ref_flip_f (nat_mem_lt b0) (by rw [nat_length]; exact n0) l1 n1 hr
    rw [int_nat b0] at this
    exact this
  · rintro e w' ⟨v, rfl, hR, hb⟩
    exact ⟨_, rfl, seq_of_R hR, hb⟩
theorem refmix_g {w : World} {u0 u1 u2 : Value} {l0 l1 l2 : List Int} (h0 : (Fact.seq (Kd.int .u8) l0).p u0 w) (h1 : (Fact.seq (Kd.int .u8) l1).p u1 w) (h2 : (Fact.seq (Kd.int .u8) l2).p u2 w)
    (b0 : bytesB l0 = true) (b1 : bytesB l1 = true) (b2 : bytesB l2 = true) (n0 : l0.length < 100) :
    Calls Try.prog 28 #[u0, u1, u2] w fun e w' => ∃ u, e = .returned u ∧ (Fact.seq (Kd.int .u8) (mixI l0 l1 l2)).p u w' ∧ Grew w w' := by
  obtain ⟨A0, c0, rfl, e0, C0⟩ := h0
  obtain ⟨A1, c1, rfl, e1, C1⟩ := h1
  obtain ⟨A2, c2, rfl, e2, C2⟩ := h2
  refine (Go.Proofs.Ytnlbekdjepkhcaa.QG.ramekinref6_Mix.calls ((nat l0).length + 1) A0 c0 l0 A1 c1 l1 A2 c2 l2 (mixI l0 l1 l2) w C0 e0 C1 e1 C2 e2 ?_).mono ?_
  · have := ref_mix_f (nat_mem_lt b0) (nat_mem_lt b1) (nat_mem_lt b2) (by rw [nat_length]; exact n0)
    rw [int_nat b0, int_nat b1, int_nat b2] at this
    exact this
  · rintro e w' ⟨v, rfl, hR, hb⟩
    exact ⟨_, rfl, seq_of_R hR, hb⟩

set_option maxHeartbeats 8000000 in
set_option maxRecDepth 100000 in
theorem all_calls (A0 : Option Addr) (c0 : Nat) (l0 : List Int) (A1 : Option Addr) (c1 : Nat) (l1 : List Int) (A2 : Option Addr) (c2 : Nat) (l2 : List Int) (A3 : Option Addr) (c3 : Nat) (l3 : List Int) (w : World) (hr0 : Kd.C (Kd.int .u8) w A0 l0.length l0) (hc0 : l0.length ≤ c0) (hr1 : Kd.C (Kd.int .u8) w A1 l1.length l1) (hc1 : l1.length ≤ c1) (hr2 : Kd.C (Kd.int .u8) w A2 l2.length l2) (hc2 : l2.length ≤ c2) (hr3 : Kd.C (Kd.int .i64) w A3 l3.length l3) (hc3 : l3.length ≤ c3)
    (b0 : bytesB l0 = true) (b1 : bytesB l1 = true) (b2 : bytesB l2 = true) (b3 : ∀ x ∈ l3, -9223372036854775808 ≤ x ∧ x ≤ 9223372036854775807) (k : Nat) (hk : k = min l0.length l1.length)
    (m0 : l0.length ≤ 60) (m1 : l1.length ≤ 60) (m2 : l2.length ≤ 60) (m3 : l3.length ≤ 60) :
    Calls Try.prog 10 #[.slice A0 l0.length c0, .slice A1 l1.length c1, .slice A2 l2.length c2, .slice A3 l3.length c3] w fun e w' => e = .returned (.bool true) ∧ Below w.heap.size w w' := by
  have hji5_ : (if (l1.length : Int) < (l0.length : Int) then (l1.length : Int) else (l0.length : Int)) = (k : Int) := by split <;> omega
  have hji5_n : (if l1.length < l0.length then (l1.length : Int) else (l0.length : Int)) = (k : Int) := by split <;> omega
  have d0 : decide ((60 : Int) < (l0.length : Int)) = false := decide_eq_false (by omega)
  have d1 : decide ((60 : Int) < (l1.length : Int)) = false := decide_eq_false (by omega)
  have d2 : decide ((60 : Int) < (l2.length : Int)) = false := decide_eq_false (by omega)
  have d3 : decide ((60 : Int) < (l3.length : Int)) = false := decide_eq_false (by omega)
  have hl0 : k ≤ l0.length := by omega
  have hl1 : k ≤ l1.length := by omega
  have hx : (l0.take k).length = k := by rw [List.length_take]; omega
  have hy : (l1.take k).length = k := by rw [List.length_take]; omega
  have hxy : (l0.take k).length < 100 := by omega
  have HY := Aside0.mk (And.intro (And.intro hl0 hl1) (And.intro hx hxy))
  have HM := Aside0.mk (And.intro (And.intro m0 m1) (And.intro m2 m3))
  clear hl0 hl1 hx hy hk m0 m1 m2 m3 hxy
  have HR0 := Aside0.mk hr0
  have HR1 := Aside0.mk hr1
  have HR2 := Aside0.mk hr2
  have HR3 := Aside0.mk hr3
  have HC0 := Aside0.mk hc0
  have HC1 := Aside0.mk hc1
  have HC2 := Aside0.mk hc2
  have HC3 := Aside0.mk hc3
  clear hr0 hr1 hc0 hc1 hr2 hc2 hr3 hc3
  go_enter Try.func10, Try.ntmps10
  go_wp2_with (first | ((with_reducible refine gate_callee (f := 18) rfl ?_); refine goesL_ (some 13) rfl rfl Try.func18 (by kernel_rfl) rfl #[] rfl (by (try simp only [List.map_toArray, List.map_cons, List.map_nil]); first | done | rfl) ?_; (refine (known_g _).mono ?_); rintro e w1 ⟨u_, rfl, hu_, hb⟩; obtain rfl : u_ = .bool true := hu_; refine ⟨_, rfl, ?_⟩))
  have s0 : (Fact.seq (Kd.int .u8) l0).p (.slice A0 l0.length c0) w1 := ⟨_, _, rfl, HC0.out, Kd.C_below HR0.out hb⟩
  have s1 : (Fact.seq (Kd.int .u8) l1).p (.slice A1 l1.length c1) w1 := ⟨_, _, rfl, HC1.out, Kd.C_below HR1.out hb⟩
  have G1 := Aside0.mk hb
  clear hb
  refine grow_at 16 [(0, 38), (1, 39), (2, 40), (3, 41), (4, 42), (5, 43), (6, 44), (7, 45), (8, 46), (9, 47), (10, 48), (11, 49), (12, 50), (13, 51), (14, 10), (15, 11)] (fun iq_ => [Fact.seq (Kd.int .u8) l0, Fact.is (.int .i64 (k : Int)), Fact.seq (Kd.int .u8) (l0.take k), Fact.seq (Kd.int .u8) l1, Fact.is (.int .i64 (k : Int)), Fact.seq (Kd.int .u8) (l1.take k), Fact.seq (Kd.int .i64) (apartG (l0.take k) (l1.take k)), Fact.seq (Kd.int .u8) l0, Fact.is (.int .i64 (k : Int)), Fact.seq (Kd.int .u8) (l0.take k), Fact.seq (Kd.int .u8) l1, Fact.is (.int .i64 (k : Int)), Fact.seq (Kd.int .u8) (l1.take k), Fact.seq (Kd.int .i64) (apartG (l0.take k) (l1.take k)), Fact.seq (Kd.int .i64) (apartG (l0.take k) (l1.take k)), Fact.seq (Kd.int .i64) (apartG (l0.take k) (l1.take k))].getD iq_ Fact.any) ?_ [0, 1, 2, 3, 4, 5, 6, 7, 8, 9, 10, 11, 12, 13, 14, 15] (by kernel_rfl) (B := [0, 0, 3, 0, 0, 24, 63, 0, 0, 384, 0, 0, 3072, 8191, 16383, 32767]) rfl (by kernel_rfl) (by kernel_rfl) (by kernel_rfl) (by kernel_rfl) rfl ?_ ?_ ?_
  rotate_left
  · intro v
    simp only [filled, Act.put, List.setIfInBounds_toArray, List.set_cons_zero, List.set_cons_succ]
    rfl
  rotate_left
  rotate_right
  · skip
    refine gat_cons ?_ ?_
    · intro v w' hg hd
      clear hd
      refine ⟨_, rfl, fun K hK => ?_⟩
      exact value_ (w1 := w') (v := (.slice A0 l0.length c0)) rfl rfl rfl (hK.out _ _ ((Fact.seq (Kd.int .u8) l0).mono s0 hg) (Grew.refl _))
    refine gat_cons ?_ ?_
    · intro v w' hg hd
      clear hd
      refine ⟨_, rfl, fun K hK => ?_⟩
      exact value_ (w1 := w') (v := (.int .i64 (k : Int))) rfl rfl rfl (hK.out _ _ rfl (Grew.refl _))
    refine gat_cons ?_ ?_
    · intro v w' hg hd
      have h0 : (Fact.seq (Kd.int .u8) l0).p (v 0) w' := hd 0 (by kernel_rfl)
      have h1 : v 1 = .int .i64 (k : Int) := hd 1 (by kernel_rfl)
      clear hd
      refine ⟨_, rfl, fun K hK => ?_⟩
      obtain ⟨u', hrun, hu'⟩ := take_g (u := v 0) h0 (HY.out.1.1)
      have e1_ : v 1 = _ := h1
      refine value_ (w1 := w') (v := u') rfl rfl ?_ (hK.out _ _ hu' (Grew.refl _))
      clear hK
      go_simp
      (try rfl)
    refine gat_cons ?_ ?_
    · intro v w' hg hd
      clear hd
      refine ⟨_, rfl, fun K hK => ?_⟩
      exact value_ (w1 := w') (v := (.slice A1 l1.length c1)) rfl rfl rfl (hK.out _ _ ((Fact.seq (Kd.int .u8) l1).mono s1 hg) (Grew.refl _))
    refine gat_cons ?_ ?_
    · intro v w' hg hd
      clear hd
      refine ⟨_, rfl, fun K hK => ?_⟩
      exact value_ (w1 := w') (v := (.int .i64 (k : Int))) rfl rfl rfl (hK.out _ _ rfl (Grew.refl _))
    refine gat_cons ?_ ?_
    · intro v w' hg hd
      have h3 : (Fact.seq (Kd.int .u8) l1).p (v 3) w' := hd 3 (by kernel_rfl)
      have h4 : v 4 = .int .i64 (k : Int) := hd 4 (by kernel_rfl)
      clear hd
      refine ⟨_, rfl, fun K hK => ?_⟩
      obtain ⟨u', hrun, hu'⟩ := take_g (u := v 3) h3 (HY.out.1.2)
      have e1_ : v 4 = _ := h4
      refine value_ (w1 := w') (v := u') rfl rfl ?_ (hK.out _ _ hu' (Grew.refl _))
      clear hK
      go_simp
      (try rfl)
    refine gat_cons ?_ ?_
    · intro v w' hg hd
      have h2 : (Fact.seq (Kd.int .u8) (l0.take k)).p (v 2) w' := hd 2 (by kernel_rfl)
      have h5 : (Fact.seq (Kd.int .u8) (l1.take k)).p (v 5) w' := hd 5 (by kernel_rfl)
      clear hd
      refine ⟨_, rfl, fun K hK => ?_⟩
      refine goes_ Try.func19 (by kernel_rfl) rfl #[v 2, v 5] rfl rfl rfl (by (try simp only [List.map_toArray, List.map_cons, List.map_nil]); first | done | rfl) ?_
      refine (apartG_g h2 h5 (bytes_take b0 k) (bytes_take b1 k) (by have := HY.out.2.2; omega)).mono ?_
      rintro e w'' ⟨u, rfl, hu, hb⟩
      exact ⟨_, rfl, hK.out _ _ hu hb⟩
    refine gat_cons ?_ ?_
    · intro v w' hg hd
      clear hd
      refine ⟨_, rfl, fun K hK => ?_⟩
      exact value_ (w1 := w') (v := (.slice A0 l0.length c0)) rfl rfl rfl (hK.out _ _ ((Fact.seq (Kd.int .u8) l0).mono s0 hg) (Grew.refl _))
    refine gat_cons ?_ ?_
    · intro v w' hg hd
      clear hd
      refine ⟨_, rfl, fun K hK => ?_⟩
      exact value_ (w1 := w') (v := (.int .i64 (k : Int))) rfl rfl rfl (hK.out _ _ rfl (Grew.refl _))
    refine gat_cons ?_ ?_
    · intro v w' hg hd
      have h7 : (Fact.seq (Kd.int .u8) l0).p (v 7) w' := hd 7 (by kernel_rfl)
      have h8 : v 8 = .int .i64 (k : Int) := hd 8 (by kernel_rfl)
      clear hd
      refine ⟨_, rfl, fun K hK => ?_⟩
      obtain ⟨u', hrun, hu'⟩ := take_g (u := v 7) h7 (HY.out.1.1)
      have e1_ : v 8 = _ := h8
      refine value_ (w1 := w') (v := u') rfl rfl ?_ (hK.out _ _ hu' (Grew.refl _))
      clear hK
      go_simp
      (try rfl)
    refine gat_cons ?_ ?_
    · intro v w' hg hd
      clear hd
      refine ⟨_, rfl, fun K hK => ?_⟩
      exact value_ (w1 := w') (v := (.slice A1 l1.length c1)) rfl rfl rfl (hK.out _ _ ((Fact.seq (Kd.int .u8) l1).mono s1 hg) (Grew.refl _))
    refine gat_cons ?_ ?_
    · intro v w' hg hd
      clear hd
      refine ⟨_, rfl, fun K hK => ?_⟩
      exact value_ (w1 := w') (v := (.int .i64 (k : Int))) rfl rfl rfl (hK.out _ _ rfl (Grew.refl _))
    refine gat_cons ?_ ?_
    · intro v w' hg hd
      have h10 : (Fact.seq (Kd.int .u8) l1).p (v 10) w' := hd 10 (by kernel_rfl)
      have h11 : v 11 = .int .i64 (k : Int) := hd 11 (by kernel_rfl)
      clear hd
      refine ⟨_, rfl, fun K hK => ?_⟩
      obtain ⟨u', hrun, hu'⟩ := take_g (u := v 10) h10 (HY.out.1.2)
      have e1_ : v 11 = _ := h11
      refine value_ (w1 := w') (v := u') rfl rfl ?_ (hK.out _ _ hu' (Grew.refl _))
      clear hK
      go_simp
      (try rfl)
    refine gat_cons ?_ ?_
    · intro v w' hg hd
      have h9 : (Fact.seq (Kd.int .u8) (l0.take k)).p (v 9) w' := hd 9 (by kernel_rfl)
      have h12 : (Fact.seq (Kd.int .u8) (l1.take k)).p (v 12) w' := hd 12 (by kernel_rfl)
      clear hd
      refine ⟨_, rfl, fun K hK => ?_⟩
      refine goes_ Try.func25 (by kernel_rfl) rfl #[v 9, v 12] rfl rfl rfl (by (try simp only [List.map_toArray, List.map_cons, List.map_nil]); first | done | rfl) ?_
      refine (refapart_g h9 h12 (bytes_take b0 k) (bytes_take b1 k) HY.out.2.2).mono ?_
      rintro e w'' ⟨u, rfl, hu, hb⟩
      exact ⟨_, rfl, hK.out _ _ hu hb⟩
    refine gat_cons ?_ ?_
    · intro v w' hg hd
      have h6 : (Fact.seq (Kd.int .i64) (apartG (l0.take k) (l1.take k))).p (v 6) w' := hd 6 (by kernel_rfl)
      clear hd
      refine ⟨_, rfl, fun K hK => ?_⟩
      exact value_ (w1 := w') (v := v 6) rfl rfl rfl (hK.out _ _ h6 (Grew.refl _))
    refine gat_cons ?_ ?_
    · intro v w' hg hd
      have h13 : (Fact.seq (Kd.int .i64) (apartG (l0.take k) (l1.take k))).p (v 13) w' := hd 13 (by kernel_rfl)
      clear hd
      refine ⟨_, rfl, fun K hK => ?_⟩
      exact value_ (w1 := w') (v := v 13) rfl rfl rfl (hK.out _ _ h13 (Grew.refl _))
    exact gat_nil
  intro v w2 hg hd
  have h10 : (Fact.seq (Kd.int .i64) (apartG (l0.take k) (l1.take k))).p (v 14) w2 := hd 14 (by decide)
  have h11 : (Fact.seq (Kd.int .i64) (apartG (l0.take k) (l1.take k))).p (v 15) w2 := hd 15 (by decide)
  clear hd
  generalize v 14 = u10 at h10 ⊢
  generalize v 15 = u11 at h11 ⊢
  have G2 := Aside0.mk (G1.out.step hg)
  replace s0 := (Fact.seq (Kd.int .u8) l0).mono s0 hg
  replace s1 := (Fact.seq (Kd.int .u8) l1).mono s1 hg
  clear G1 hg
  rename_i K_ hK_
  refine hK_ _ _ ?_
  clear hK_
  repeat (with_reducible refine wp_seq ?_)
  refine grow_plain_at 16 [(0, 52), (1, 53), (2, 54), (3, 55), (4, 56), (5, 57), (6, 58), (7, 59), (8, 60), (9, 61), (10, 62), (11, 63), (12, 64), (13, 65), (14, 66), (15, 67)] (fun iq_ => [Fact.seq (Kd.int .i64) (apartG (l0.take k) (l1.take k)), Fact.is (.int .i64 ((apartG (l0.take k) (l1.take k)).length : Int)), Fact.seq (Kd.int .i64) (apartG (l0.take k) (l1.take k)), Fact.is (.int .i64 ((apartG (l0.take k) (l1.take k)).length : Int)), Fact.is (.bool false), Fact.is (.bool false), Fact.seq (Kd.int .u8) l0, Fact.seq (Kd.int .u8) l1, Fact.seq (Kd.int .i64) (apartG l0 l1), Fact.is (.int .i64 ((apartG l0 l1).length : Int)), Fact.seq (Kd.int .u8) l0, Fact.seq (Kd.int .u8) l1, Fact.seq (Kd.int .i64) (apartG l0 l1), Fact.is (.int .i64 ((apartG l0 l1).length : Int)), Fact.is (.bool false), Fact.is (.bool false)].getD iq_ Fact.any) ?_ [0, 1, 2, 3, 4, 5, 6, 7, 8, 9, 10, 11, 12, 13, 14, 15] (B := [0, 1, 0, 4, 15, 31, 63, 63, 255, 511, 63, 63, 3583, 7679, 16383, 32767]) (by kernel_rfl) (by kernel_rfl) (by kernel_rfl) rfl ?_ ?_ ?_
  rotate_left
  · intro v
    simp only [filled, Act.put, List.setIfInBounds_toArray, List.set_cons_zero, List.set_cons_succ]
    rfl
  rotate_left
  rotate_right
  · skip
    refine gat_cons ?_ ?_
    · intro v w' hg hd
      clear hd
      refine ⟨_, rfl, fun K hK => ?_⟩
      exact value_ (w1 := w') (v := (u10)) rfl rfl rfl (hK.out _ _ ((Fact.seq (Kd.int .i64) (apartG (l0.take k) (l1.take k))).mono h10 hg) (Grew.refl _))
    refine gat_cons ?_ ?_
    · intro v w' hg hd
      have h0 : (Fact.seq (Kd.int .i64) (apartG (l0.take k) (l1.take k))).p (v 0) w' := hd 0 (by kernel_rfl)
      clear hd
      refine ⟨_, rfl, fun K hK => ?_⟩
      obtain ⟨A_, c_, e_, _, _⟩ : (Fact.seq (Kd.int .i64) (apartG (l0.take k) (l1.take k))).p (v 0) w' := h0
      refine value_ (w1 := w') (v := .int .i64 ((apartG (l0.take k) (l1.take k)).length : Int)) rfl rfl ?_ (hK.out _ _ rfl (Grew.refl _))
      clear hK
      generalize ((apartG (l0.take k) (l1.take k))).length = n_ at e_ ⊢
      go_simp
      (try rfl)
    refine gat_cons ?_ ?_
    · intro v w' hg hd
      clear hd
      refine ⟨_, rfl, fun K hK => ?_⟩
      exact value_ (w1 := w') (v := (u11)) rfl rfl rfl (hK.out _ _ ((Fact.seq (Kd.int .i64) (apartG (l0.take k) (l1.take k))).mono h11 hg) (Grew.refl _))
    refine gat_cons ?_ ?_
    · intro v w' hg hd
      have h2 : (Fact.seq (Kd.int .i64) (apartG (l0.take k) (l1.take k))).p (v 2) w' := hd 2 (by kernel_rfl)
      clear hd
      refine ⟨_, rfl, fun K hK => ?_⟩
      obtain ⟨A_, c_, e_, _, _⟩ : (Fact.seq (Kd.int .i64) (apartG (l0.take k) (l1.take k))).p (v 2) w' := h2
      refine value_ (w1 := w') (v := .int .i64 ((apartG (l0.take k) (l1.take k)).length : Int)) rfl rfl ?_ (hK.out _ _ rfl (Grew.refl _))
      clear hK
      generalize ((apartG (l0.take k) (l1.take k))).length = n_ at e_ ⊢
      go_simp
      (try rfl)
    refine gat_cons ?_ ?_
    · intro v w' hg hd
      have h1 : v 1 = .int .i64 ((apartG (l0.take k) (l1.take k)).length : Int) := hd 1 (by kernel_rfl)
      have h3 : v 3 = .int .i64 ((apartG (l0.take k) (l1.take k)).length : Int) := hd 3 (by kernel_rfl)
      clear hd
      refine ⟨_, rfl, fun K hK => ?_⟩
      refine value_ (w1 := w') (v := .bool false) rfl rfl ?_ (hK.out _ _ rfl (Grew.refl _))
      clear hK
      go_simp
      (try (simp))
    refine gat_cons ?_ ?_
    · intro v w' hg hd
      have h4 : v 4 = .bool false := hd 4 (by kernel_rfl)
      clear hd
      refine ⟨_, rfl, fun K hK => ?_⟩
      exact value_ (w1 := w') (v := v 4) rfl rfl rfl (hK.out _ _ h4 (Grew.refl _))
    refine gat_cons ?_ ?_
    · intro v w' hg hd
      have h5 : v 5 = .bool false := hd 5 (by kernel_rfl)
      clear hd
      refine ⟨_, rfl, fun K hK => ?_⟩
      exact value_ (w1 := w') (v := (.slice A0 l0.length c0)) (wanted_on rfl rfl rfl (by show some (v 5) = _; rw [h5])) rfl rfl (hK.out _ _ ((Fact.seq (Kd.int .u8) l0).mono s0 hg) (Grew.refl _))
    refine gat_cons ?_ ?_
    · intro v w' hg hd
      have h5 : v 5 = .bool false := hd 5 (by kernel_rfl)
      clear hd
      refine ⟨_, rfl, fun K hK => ?_⟩
      exact value_ (w1 := w') (v := (.slice A1 l1.length c1)) (wanted_on rfl rfl rfl (by show some (v 5) = _; rw [h5])) rfl rfl (hK.out _ _ ((Fact.seq (Kd.int .u8) l1).mono s1 hg) (Grew.refl _))
    refine gat_cons ?_ ?_
    · intro v w' hg hd
      have h5 : v 5 = .bool false := hd 5 (by kernel_rfl)
      have h6 : (Fact.seq (Kd.int .u8) l0).p (v 6) w' := hd 6 (by kernel_rfl)
      have h7 : (Fact.seq (Kd.int .u8) l1).p (v 7) w' := hd 7 (by kernel_rfl)
      clear hd
      refine ⟨_, rfl, fun K hK => ?_⟩
      refine goes_ Try.func19 (by kernel_rfl) rfl #[v 6, v 7] (wanted_on rfl rfl rfl (by show some (v 5) = _; rw [h5])) rfl rfl (by (try simp only [List.map_toArray, List.map_cons, List.map_nil]); first | done | rfl) ?_
      refine (apartG_g h6 h7 b0 b1 (by have := HM.out.1.1; omega)).mono ?_
      rintro e w'' ⟨u, rfl, hu, hb⟩
      exact ⟨_, rfl, hK.out _ _ hu hb⟩
    refine gat_cons ?_ ?_
    · intro v w' hg hd
      have h5 : v 5 = .bool false := hd 5 (by kernel_rfl)
      have h8 : (Fact.seq (Kd.int .i64) (apartG l0 l1)).p (v 8) w' := hd 8 (by kernel_rfl)
      clear hd
      refine ⟨_, rfl, fun K hK => ?_⟩
      obtain ⟨A_, c_, e_, _, _⟩ : (Fact.seq (Kd.int .i64) (apartG l0 l1)).p (v 8) w' := h8
      refine value_ (w1 := w') (v := .int .i64 ((apartG l0 l1).length : Int)) (wanted_on rfl rfl rfl (by show some (v 5) = _; rw [h5])) rfl ?_ (hK.out _ _ rfl (Grew.refl _))
      clear hK
      generalize ((apartG l0 l1)).length = n_ at e_ ⊢
      go_simp
      (try rfl)
    refine gat_cons ?_ ?_
    · intro v w' hg hd
      have h5 : v 5 = .bool false := hd 5 (by kernel_rfl)
      clear hd
      refine ⟨_, rfl, fun K hK => ?_⟩
      exact value_ (w1 := w') (v := (.slice A0 l0.length c0)) (wanted_on rfl rfl rfl (by show some (v 5) = _; rw [h5])) rfl rfl (hK.out _ _ ((Fact.seq (Kd.int .u8) l0).mono s0 hg) (Grew.refl _))
    refine gat_cons ?_ ?_
    · intro v w' hg hd
      have h5 : v 5 = .bool false := hd 5 (by kernel_rfl)
      clear hd
      refine ⟨_, rfl, fun K hK => ?_⟩
      exact value_ (w1 := w') (v := (.slice A1 l1.length c1)) (wanted_on rfl rfl rfl (by show some (v 5) = _; rw [h5])) rfl rfl (hK.out _ _ ((Fact.seq (Kd.int .u8) l1).mono s1 hg) (Grew.refl _))
    refine gat_cons ?_ ?_
    · intro v w' hg hd
      have h5 : v 5 = .bool false := hd 5 (by kernel_rfl)
      have h10 : (Fact.seq (Kd.int .u8) l0).p (v 10) w' := hd 10 (by kernel_rfl)
      have h11 : (Fact.seq (Kd.int .u8) l1).p (v 11) w' := hd 11 (by kernel_rfl)
      clear hd
      refine ⟨_, rfl, fun K hK => ?_⟩
      refine goes_ Try.func25 (by kernel_rfl) rfl #[v 10, v 11] (wanted_on rfl rfl rfl (by show some (v 5) = _; rw [h5])) rfl rfl (by (try simp only [List.map_toArray, List.map_cons, List.map_nil]); first | done | rfl) ?_
      refine (refapart_g h10 h11 b0 b1 (by have := HM.out.1.1; omega)).mono ?_
      rintro e w'' ⟨u, rfl, hu, hb⟩
      exact ⟨_, rfl, hK.out _ _ hu hb⟩
    refine gat_cons ?_ ?_
    · intro v w' hg hd
      have h5 : v 5 = .bool false := hd 5 (by kernel_rfl)
      have h12 : (Fact.seq (Kd.int .i64) (apartG l0 l1)).p (v 12) w' := hd 12 (by kernel_rfl)
      clear hd
      refine ⟨_, rfl, fun K hK => ?_⟩
      obtain ⟨A_, c_, e_, _, _⟩ : (Fact.seq (Kd.int .i64) (apartG l0 l1)).p (v 12) w' := h12
      refine value_ (w1 := w') (v := .int .i64 ((apartG l0 l1).length : Int)) (wanted_on rfl rfl rfl (by show some (v 5) = _; rw [h5])) rfl ?_ (hK.out _ _ rfl (Grew.refl _))
      clear hK
      generalize ((apartG l0 l1)).length = n_ at e_ ⊢
      go_simp
      (try rfl)
    refine gat_cons ?_ ?_
    · intro v w' hg hd
      have h5 : v 5 = .bool false := hd 5 (by kernel_rfl)
      have h9 : v 9 = .int .i64 ((apartG l0 l1).length : Int) := hd 9 (by kernel_rfl)
      have h13 : v 13 = .int .i64 ((apartG l0 l1).length : Int) := hd 13 (by kernel_rfl)
      clear hd
      refine ⟨_, rfl, fun K hK => ?_⟩
      refine value_ (w1 := w') (v := .bool false) (wanted_on rfl rfl rfl (by show some (v 5) = _; rw [h5])) rfl ?_ (hK.out _ _ rfl (Grew.refl _))
      clear hK
      go_simp
      (try (simp))
    refine gat_cons ?_ ?_
    · intro v w' hg hd
      have h5 : v 5 = .bool false := hd 5 (by kernel_rfl)
      have h14 : v 14 = .bool false := hd 14 (by kernel_rfl)
      clear hd
      refine ⟨_, rfl, fun K hK => ?_⟩
      refine value_ (w1 := w') (v := .bool false) rfl rfl ?_ (hK.out _ _ rfl (Grew.refl _))
      clear hK
      go_simp
      (try (rfl))
    exact gat_nil
  intro v w3 hg hd
  have h67 : v 15 = .bool false := hd 15 (by decide)
  clear hd
  generalize v 15 = u67 at h67 ⊢
  subst h67
  have G3 := Aside0.mk (G2.out.step hg)
  replace h10 := (Fact.seq (Kd.int .i64) (apartG (l0.take k) (l1.take k))).mono h10 hg
  replace h11 := (Fact.seq (Kd.int .i64) (apartG (l0.take k) (l1.take k))).mono h11 hg
  clear G2 hg s0 s1
  obtain ⟨A10, c10, rfl, e10, C10⟩ := h10
  obtain ⟨A11, c11, rfl, e11, C11⟩ := h11
  generalize hX : apartG (l0.take k) (l1.take k) = X at *
  have HX := Aside0.mk hX
  have E10 := Aside0.mk (And.intro e10 e11)
  clear e10 e11
  have S10 := Aside0.mk C10
  have S11 := Aside0.mk C11
  clear hX C10 C11
  go_wp2
  go_loopg [12] (X.length) (fun kq v12 w' => ∃ i : Nat, v12 = .int .i64 (i : Int) ∧ Aside0 (i + kq = X.length) ∧ Aside0 (Grew w3 w'))
  case atStart => exact ⟨0, rfl, ⟨by omega⟩, ⟨Grew.refl _⟩⟩
  case round =>
    obtain ⟨i, rfl, HI, HG⟩ := hrel
    by_cases hi : i < X.length
    · have cb : decide ((i : Int) < (X.length : Int)) = true := decide_eq_true (by omega)
      have cbn : decide (i < X.length) = true := decide_eq_true hi
      have HI2 := Aside0.mk hi
      clear hi
      have s10 : (Fact.seq (Kd.int .i64) X).p (.slice A10 X.length c10) wr := ⟨_, _, rfl, E10.out.1, Kd.C_below S10.out HG.out⟩
      have s11 : (Fact.seq (Kd.int .i64) X).p (.slice A11 X.length c11) wr := ⟨_, _, rfl, E10.out.2, Kd.C_below S11.out HG.out⟩
      go_wp2
      refine grow_at 9 [(0, 74), (1, 75), (2, 76), (3, 77), (4, 78), (5, 79), (6, 80), (7, 81), (8, 82)] (fun iq_ => [Fact.seq (Kd.int .i64) X, Fact.is (.int .i64 (i : Int)), Fact.cell (.int .i64 (rd X (i : Int))), Fact.is (.int .i64 (rd X (i : Int))), Fact.seq (Kd.int .i64) X, Fact.is (.int .i64 (i : Int)), Fact.cell (.int .i64 (rd X (i : Int))), Fact.is (.int .i64 (rd X (i : Int))), Fact.is (.bool false)].getD iq_ Fact.any) ?_ [0, 1, 2, 3, 4, 5, 6, 7, 8] (by kernel_rfl) (B := [0, 0, 3, 7, 0, 0, 48, 112, 255]) rfl (by kernel_rfl) (by kernel_rfl) (by kernel_rfl) (by kernel_rfl) rfl ?_ ?_ ?_
      rotate_left
      · intro v
        simp only [filled, Act.put, List.setIfInBounds_toArray, List.set_cons_zero, List.set_cons_succ]
        rfl
      rotate_left
      rotate_right
      · skip
        refine gat_cons ?_ ?_
        · intro v w' hg hd
          clear hd
          refine ⟨_, rfl, fun K hK => ?_⟩
          exact value_ (w1 := w') (v := (.slice A10 X.length c10)) rfl rfl rfl (hK.out _ _ ((Fact.seq (Kd.int .i64) X).mono s10 hg) (Grew.refl _))
        refine gat_cons ?_ ?_
        · intro v w' hg hd
          clear hd
          refine ⟨_, rfl, fun K hK => ?_⟩
          exact value_ (w1 := w') (v := (.int .i64 (i : Int))) rfl rfl rfl (hK.out _ _ rfl (Grew.refl _))
        refine gat_cons ?_ ?_
        · intro v w' hg hd
          have h0 : (Fact.seq (Kd.int .i64) X).p (v 0) w' := hd 0 (by kernel_rfl)
          have h1 : v 1 = .int .i64 (i : Int) := hd 1 (by kernel_rfl)
          clear hd
          refine ⟨_, rfl, fun K hK => ?_⟩
          obtain ⟨A_, c_, e_, l_, C_⟩ : (Fact.seq (Kd.int .i64) X).p (v 0) w' := h0
          have e1_ : v 1 = _ := h1
          have p_ : 0 ≤ ((i : Int) : Int) := (Int.natCast_nonneg _)
          have q_ : ((i : Int) : Int) < (X.length : Int) := (Int.ofNat_lt.2 HI2.out)
          obtain ⟨ad_, ea_, hx_⟩ := Kd.at_int C_ (i : Int) p_ q_
          subst ea_
          replace p_ := eq_true p_
          replace q_ := eq_true q_
          clear l_ C_
          refine value_ (w1 := w') (v := .pointer (some (ad_.add ((i : Int) : Int).toNat))) rfl rfl ?_ (hK.out _ _ ⟨_, rfl, hx_⟩ (Grew.refl _))
          clear hK hx_
          generalize (X).length = n_ at e_ q_
          go_simp
          (try rfl)
        refine gat_cons ?_ ?_
        · intro v w' hg hd
          have h2 : (Fact.cell (.int .i64 (rd X (i : Int)))).p (v 2) w' := hd 2 (by kernel_rfl)
          clear hd
          refine ⟨_, rfl, fun K hK => ?_⟩
          obtain ⟨p_, e_, hc_⟩ : (Fact.cell (.int .i64 (rd X (i : Int)))).p (v 2) w' := h2
          refine value_ (w1 := w') (v := .int .i64 (rd X (i : Int))) rfl rfl ?_ (hK.out _ _ rfl (Grew.refl _))
          clear hK
          go_simp
          (try rfl)
        refine gat_cons ?_ ?_
        · intro v w' hg hd
          clear hd
          refine ⟨_, rfl, fun K hK => ?_⟩
          exact value_ (w1 := w') (v := (.slice A11 X.length c11)) rfl rfl rfl (hK.out _ _ ((Fact.seq (Kd.int .i64) X).mono s11 hg) (Grew.refl _))
        refine gat_cons ?_ ?_
        · intro v w' hg hd
          clear hd
          refine ⟨_, rfl, fun K hK => ?_⟩
          exact value_ (w1 := w') (v := (.int .i64 (i : Int))) rfl rfl rfl (hK.out _ _ rfl (Grew.refl _))
        refine gat_cons ?_ ?_
        · intro v w' hg hd
          have h4 : (Fact.seq (Kd.int .i64) X).p (v 4) w' := hd 4 (by kernel_rfl)
          have h5 : v 5 = .int .i64 (i : Int) := hd 5 (by kernel_rfl)
          clear hd
          refine ⟨_, rfl, fun K hK => ?_⟩
          obtain ⟨A_, c_, e_, l_, C_⟩ : (Fact.seq (Kd.int .i64) X).p (v 4) w' := h4
          have e1_ : v 5 = _ := h5
          have p_ : 0 ≤ ((i : Int) : Int) := (Int.natCast_nonneg _)
          have q_ : ((i : Int) : Int) < (X.length : Int) := (Int.ofNat_lt.2 HI2.out)
          obtain ⟨ad_, ea_, hx_⟩ := Kd.at_int C_ (i : Int) p_ q_
          subst ea_
          replace p_ := eq_true p_
          replace q_ := eq_true q_
          clear l_ C_
          refine value_ (w1 := w') (v := .pointer (some (ad_.add ((i : Int) : Int).toNat))) rfl rfl ?_ (hK.out _ _ ⟨_, rfl, hx_⟩ (Grew.refl _))
          clear hK hx_
          generalize (X).length = n_ at e_ q_
          go_simp
          (try rfl)
        refine gat_cons ?_ ?_
        · intro v w' hg hd
          have h6 : (Fact.cell (.int .i64 (rd X (i : Int)))).p (v 6) w' := hd 6 (by kernel_rfl)
          clear hd
          refine ⟨_, rfl, fun K hK => ?_⟩
          obtain ⟨p_, e_, hc_⟩ : (Fact.cell (.int .i64 (rd X (i : Int)))).p (v 6) w' := h6
          refine value_ (w1 := w') (v := .int .i64 (rd X (i : Int))) rfl rfl ?_ (hK.out _ _ rfl (Grew.refl _))
          clear hK
          go_simp
          (try rfl)
        refine gat_cons ?_ ?_
        · intro v w' hg hd
          have h3 : v 3 = .int .i64 (rd X (i : Int)) := hd 3 (by kernel_rfl)
          have h7 : v 7 = .int .i64 (rd X (i : Int)) := hd 7 (by kernel_rfl)
          clear hd
          refine ⟨_, rfl, fun K hK => ?_⟩
          refine value_ (w1 := w') (v := .bool false) rfl rfl ?_ (hK.out _ _ rfl (Grew.refl _))
          clear hK
          go_simp
          (try (simp))
        exact gat_nil
      intro v w4 hg hd
      have h82 : v 8 = .bool false := hd 8 (by decide)
      clear hd
      generalize v 8 = u82 at h82 ⊢
      subst h82
      have HG2 := Aside0.mk (HG.out.step hg)
      clear hg s10 s11
      go_wp2
      go_roundg (gk - 1)
      case measure => have := HI.out; have := HI2.out; omega
      case rel => exact ⟨i + 1, by (have h_ := S10.out.2.1; have h2_ := HI2.out; first | (rw [w64 (by omega) (by omega)]; simp) | (simp; rw [w64 (by omega) (by omega)])), ⟨by have := HI.out; have := HI2.out; omega⟩, HG2⟩
    · have cb : decide ((i : Int) < (X.length : Int)) = false := decide_eq_false (by omega)
      have cbn : decide (i < X.length) = false := decide_eq_false hi
      clear hi
      go_wp2
      have G4 := Aside0.mk (G3.out.step HG.out)
      have s0 : (Fact.seq (Kd.int .u8) l0).p (.slice A0 l0.length c0) wr := ⟨_, _, rfl, HC0.out, Kd.C_below HR0.out G4.out⟩
      have s1 : (Fact.seq (Kd.int .u8) l1).p (.slice A1 l1.length c1) wr := ⟨_, _, rfl, HC1.out, Kd.C_below HR1.out G4.out⟩
      have s2 : (Fact.seq (Kd.int .u8) l2).p (.slice A2 l2.length c2) wr := ⟨_, _, rfl, HC2.out, Kd.C_below HR2.out G4.out⟩
      have s3 : (Fact.seq (Kd.int .i64) l3).p (.slice A3 l3.length c3) wr := ⟨_, _, rfl, HC3.out, Kd.C_below HR3.out G4.out⟩
      repeat (with_reducible refine wp_seq ?_)
      refine grow_at 53 [(0, 83), (1, 84), (2, 85), (3, 86), (4, 87), (5, 88), (6, 89), (7, 90), (8, 91), (9, 92), (10, 93), (11, 94), (12, 95), (13, 96), (14, 97), (15, 98), (16, 99), (17, 100), (18, 101), (19, 102), (20, 103), (21, 104), (22, 105), (23, 106), (24, 107), (25, 108), (26, 109), (27, 110), (28, 111), (29, 112), (30, 113), (31, 114), (32, 115), (33, 116), (34, 117), (35, 118), (36, 119), (37, 120), (38, 121), (39, 122), (40, 123), (41, 124), (42, 125), (43, 126), (44, 127), (45, 128), (46, 129), (47, 130), (48, 131), (49, 132), (50, 133), (51, 134), (52, 8)] (fun iq_ => [Fact.seq (Kd.int .u8) l0, Fact.is (.int .i64 (onesI l0)), Fact.seq (Kd.int .u8) l0, Fact.is (.int .i64 (onesI l0)), Fact.is (.bool true), Fact.is (.bool true), Fact.empty, Fact.seq (Kd.int .u8) l0, Fact.seq (Kd.int .u8) l0, Fact.seq (Kd.int .i64) l3, Fact.seq (Kd.int .u8) (flipI l0 l3), Fact.is (.string (strOfNums (flipI l0 l3))), Fact.seq (Kd.int .u8) l0, Fact.seq (Kd.int .i64) l3, Fact.seq (Kd.int .u8) (flipI l0 l3), Fact.is (.string (strOfNums (flipI l0 l3))), Fact.is (.bool true), Fact.is (.bool true), Fact.is (.bool true), Fact.seq (Kd.int .u8) l0, Fact.seq (Kd.int .u8) l1, Fact.seq (Kd.int .u8) l2, Fact.seq (Kd.int .u8) (mixI l0 l1 l2), Fact.is (.string (strOfNums (mixI l0 l1 l2))), Fact.seq (Kd.int .u8) l0, Fact.seq (Kd.int .u8) l1, Fact.seq (Kd.int .u8) l2, Fact.seq (Kd.int .u8) (mixI l0 l1 l2), Fact.is (.string (strOfNums (mixI l0 l1 l2))), Fact.is (.bool true), Fact.is (.bool true), Fact.is (.bool true), Fact.seq (Kd.int .u8) l0, Fact.is (.int .i64 (k : Int)), Fact.seq (Kd.int .u8) (l0.take k), Fact.seq (Kd.int .u8) l1, Fact.is (.int .i64 (k : Int)), Fact.seq (Kd.int .u8) (l1.take k), Fact.seq (Kd.int .u8) l2, Fact.seq (Kd.int .u8) (mixI (l0.take k) (l1.take k) l2), Fact.is (.string (strOfNums (mixI (l0.take k) (l1.take k) l2))), Fact.seq (Kd.int .u8) l0, Fact.is (.int .i64 (k : Int)), Fact.seq (Kd.int .u8) (l0.take k), Fact.seq (Kd.int .u8) l1, Fact.is (.int .i64 (k : Int)), Fact.seq (Kd.int .u8) (l1.take k), Fact.seq (Kd.int .u8) l2, Fact.seq (Kd.int .u8) (mixI (l0.take k) (l1.take k) l2), Fact.is (.string (strOfNums (mixI (l0.take k) (l1.take k) l2))), Fact.is (.bool true), Fact.is (.bool true), Fact.is (.bool true)].getD iq_ Fact.any) ?_ [0, 1, 2, 3, 4, 5, 6, 7, 8, 9, 10, 11, 12, 13, 14, 15, 16, 17, 18, 19, 20, 21, 22, 23, 24, 25, 26, 27, 28, 29, 30, 31, 32, 33, 34, 35, 36, 37, 38, 39, 40, 41, 42, 43, 44, 45, 46, 47, 48, 49, 50, 51, 52] (by kernel_rfl) (B := [0, 1, 0, 7, 15, 31, 63, 63, 255, 63, 1023, 2047, 63, 63, 14335, 30719, 65535, 131071, 262143, 524287, 524287, 524287, 4194303, 8388607, 524287, 524287, 524287, 125829119, 260046847, 536870911, 1073741823, 2147483647, 4294967295, 4294967295, 17179869183, 4294967295, 4294967295, 107374182399, 4294967295, 549755813887, 1099511627775, 4294967295, 4294967295, 6601364733951, 4294967295, 4294967295, 52780853100543, 4294967295, 280375465082879, 561850441793535, 1125899906842623, 2251799813685247, 4503599627370495]) rfl (by kernel_rfl) (by kernel_rfl) (by kernel_rfl) (by kernel_rfl) rfl ?_ ?_ ?_
      rotate_left
      · intro v
        simp only [filled, Act.put, List.setIfInBounds_toArray, List.set_cons_zero, List.set_cons_succ]
        rfl
      rotate_left
      rotate_right
      · skip
        refine gat_cons ?_ ?_
        · intro v w' hg hd
          clear hd
          refine ⟨_, rfl, fun K hK => ?_⟩
          exact value_ (w1 := w') (v := (.slice A0 l0.length c0)) rfl rfl rfl (hK.out _ _ ((Fact.seq (Kd.int .u8) l0).mono s0 hg) (Grew.refl _))
        refine gat_cons ?_ ?_
        · intro v w' hg hd
          have h0 : (Fact.seq (Kd.int .u8) l0).p (v 0) w' := hd 0 (by kernel_rfl)
          clear hd
          refine ⟨_, rfl, fun K hK => ?_⟩
          refine goes_ Try.func24 (by kernel_rfl) rfl #[v 0] rfl rfl rfl (by (try simp only [List.map_toArray, List.map_cons, List.map_nil]); first | done | rfl) ?_
          refine (ones_g h0 b0 (by have := HM.out.1.1; omega)).mono ?_
          rintro e w'' ⟨u, rfl, hu, hb⟩
          exact ⟨_, rfl, hK.out _ _ hu hb⟩
        refine gat_cons ?_ ?_
        · intro v w' hg hd
          clear hd
          refine ⟨_, rfl, fun K hK => ?_⟩
          exact value_ (w1 := w') (v := (.slice A0 l0.length c0)) rfl rfl rfl (hK.out _ _ ((Fact.seq (Kd.int .u8) l0).mono s0 hg) (Grew.refl _))
        refine gat_cons ?_ ?_
        · intro v w' hg hd
          have h2 : (Fact.seq (Kd.int .u8) l0).p (v 2) w' := hd 2 (by kernel_rfl)
          clear hd
          refine ⟨_, rfl, fun K hK => ?_⟩
          refine goes_ Try.func26 (by kernel_rfl) rfl #[v 2] rfl rfl rfl (by (try simp only [List.map_toArray, List.map_cons, List.map_nil]); first | done | rfl) ?_
          refine (refones_g h2 b0 (by have := HM.out.1.1; omega)).mono ?_
          rintro e w'' ⟨u, rfl, hu, hb⟩
          exact ⟨_, rfl, hK.out _ _ hu hb⟩
        refine gat_cons ?_ ?_
        · intro v w' hg hd
          have h1 : v 1 = .int .i64 (onesI l0) := hd 1 (by kernel_rfl)
          have h3 : v 3 = .int .i64 (onesI l0) := hd 3 (by kernel_rfl)
          clear hd
          refine ⟨_, rfl, fun K hK => ?_⟩
          refine value_ (w1 := w') (v := .bool true) rfl rfl ?_ (hK.out _ _ rfl (Grew.refl _))
          clear hK
          go_simp
          (try (simp))
        refine gat_cons ?_ ?_
        · intro v w' hg hd
          have h4 : v 4 = .bool true := hd 4 (by kernel_rfl)
          clear hd
          refine ⟨_, rfl, fun K hK => ?_⟩
          exact value_ (w1 := w') (v := v 4) rfl rfl rfl (hK.out _ _ h4 (Grew.refl _))
        refine gat_cons ?_ ?_
        · intro v w' hg hd
          have h5 : v 5 = .bool true := hd 5 (by kernel_rfl)
          clear hd
          refine ⟨_, rfl, fun K hK => ?_⟩
          refine value_ (w1 := ?_) (v := ?_) (wanted_on rfl rfl rfl (by show some (v 5) = _; rw [h5])) rfl ?_ ?_
          rotate_left 2
          · go_simp
            constructor
            · rfl
            · rfl
          exact hK.out _ _ ⟨_, rfl⟩ (below_alloc (Below.refl _ _) _)
        refine gat_cons ?_ ?_
        · intro v w' hg hd
          have h5 : v 5 = .bool true := hd 5 (by kernel_rfl)
          clear hd
          refine ⟨_, rfl, fun K hK => ?_⟩
          exact value_ (w1 := w') (v := (.slice A0 l0.length c0)) (wanted_on rfl rfl rfl (by show some (v 5) = _; rw [h5])) rfl rfl (hK.out _ _ ((Fact.seq (Kd.int .u8) l0).mono s0 hg) (Grew.refl _))
        refine gat_cons ?_ ?_
        · intro v w' hg hd
          have h5 : v 5 = .bool true := hd 5 (by kernel_rfl)
          have h6 : (Fact.empty).p (v 6) w' := hd 6 (by kernel_rfl)
          have h7 : (Fact.seq (Kd.int .u8) l0).p (v 7) w' := hd 7 (by kernel_rfl)
          clear hd
          refine ⟨_, rfl, fun K hK => ?_⟩
          exact append0_step (wanted_on rfl rfl rfl (by show some (v 5) = _; rw [h5])) _ _ rfl Try.underlying28 (info_elt28) (by decide) rfl rfl h6 h7 (by have := HM.out.1.1; omega) (fun v1 w1 h1 h2 => hK.out _ _ h1 h2)
        refine gat_cons ?_ ?_
        · intro v w' hg hd
          have h5 : v 5 = .bool true := hd 5 (by kernel_rfl)
          clear hd
          refine ⟨_, rfl, fun K hK => ?_⟩
          exact value_ (w1 := w') (v := (.slice A3 l3.length c3)) (wanted_on rfl rfl rfl (by show some (v 5) = _; rw [h5])) rfl rfl (hK.out _ _ ((Fact.seq (Kd.int .i64) l3).mono s3 hg) (Grew.refl _))
        refine gat_cons ?_ ?_
        · intro v w' hg hd
          have h5 : v 5 = .bool true := hd 5 (by kernel_rfl)
          have h8 : (Fact.seq (Kd.int .u8) l0).p (v 8) w' := hd 8 (by kernel_rfl)
          have h9 : (Fact.seq (Kd.int .i64) l3).p (v 9) w' := hd 9 (by kernel_rfl)
          clear hd
          refine ⟨_, rfl, fun K hK => ?_⟩
          refine goes_ Try.func20 (by kernel_rfl) rfl #[v 8, v 9] (wanted_on rfl rfl rfl (by show some (v 5) = _; rw [h5])) rfl rfl (by (try simp only [List.map_toArray, List.map_cons, List.map_nil]); first | done | rfl) ?_
          refine (flip_g h8 h9 b0 (by have := HM.out.1.1; omega) (by have := HM.out.2.2; omega)).mono ?_
          rintro e w'' ⟨u, rfl, hu, hb⟩
          exact ⟨_, rfl, hK.out _ _ hu hb⟩
        refine gat_cons ?_ ?_
        · intro v w' hg hd
          have h5 : v 5 = .bool true := hd 5 (by kernel_rfl)
          have h10 : (Fact.seq (Kd.int .u8) (flipI l0 l3)).p (v 10) w' := hd 10 (by kernel_rfl)
          clear hd
          refine ⟨_, rfl, fun K hK => ?_⟩
          obtain ⟨A_, c_, e_, _, C_⟩ : (Fact.seq (Kd.int .u8) (flipI l0 l3)).p (v 10) w' := h10
          have hcv := Kd.C_string (P := Try.prog) (A := A_) (c := c_) Try.underlying28 Try.underlying5 Try.underlying9 C_
          refine value_ (w1 := w') (v := .string (strOfNums (flipI l0 l3))) (wanted_on rfl rfl rfl (by show some (v 5) = _; rw [h5])) rfl ?_ (hK.out _ _ rfl (Grew.refl _))
          clear hK C_
          generalize ((flipI l0 l3)).length = n_ at e_ hcv
          go_simp
          (try rfl)
        refine gat_cons ?_ ?_
        · intro v w' hg hd
          have h5 : v 5 = .bool true := hd 5 (by kernel_rfl)
          clear hd
          refine ⟨_, rfl, fun K hK => ?_⟩
          exact value_ (w1 := w') (v := (.slice A0 l0.length c0)) (wanted_on rfl rfl rfl (by show some (v 5) = _; rw [h5])) rfl rfl (hK.out _ _ ((Fact.seq (Kd.int .u8) l0).mono s0 hg) (Grew.refl _))
        refine gat_cons ?_ ?_
        · intro v w' hg hd
          have h5 : v 5 = .bool true := hd 5 (by kernel_rfl)
          clear hd
          refine ⟨_, rfl, fun K hK => ?_⟩
          exact value_ (w1 := w') (v := (.slice A3 l3.length c3)) (wanted_on rfl rfl rfl (by show some (v 5) = _; rw [h5])) rfl rfl (hK.out _ _ ((Fact.seq (Kd.int .i64) l3).mono s3 hg) (Grew.refl _))
        refine gat_cons ?_ ?_
        · intro v w' hg hd
          have h5 : v 5 = .bool true := hd 5 (by kernel_rfl)
          have h12 : (Fact.seq (Kd.int .u8) l0).p (v 12) w' := hd 12 (by kernel_rfl)
          have h13 : (Fact.seq (Kd.int .i64) l3).p (v 13) w' := hd 13 (by kernel_rfl)
          clear hd
          refine ⟨_, rfl, fun K hK => ?_⟩
          refine goes_ Try.func27 (by kernel_rfl) rfl #[v 12, v 13] (wanted_on rfl rfl rfl (by show some (v 5) = _; rw [h5])) rfl rfl (by (try simp only [List.map_toArray, List.map_cons, List.map_nil]); first | done | rfl) ?_
          refine (refflip_g h12 h13 b0 (by have := HM.out.1.1; omega) (by have := HM.out.2.2; omega) b3).mono ?_
          rintro e w'' ⟨u, rfl, hu, hb⟩
          exact ⟨_, rfl, hK.out _ _ hu hb⟩
        refine gat_cons ?_ ?_
        · intro v w' hg hd
          have h5 : v 5 = .bool true := hd 5 (by kernel_rfl)
          have h14 : (Fact.seq (Kd.int .u8) (flipI l0 l3)).p (v 14) w' := hd 14 (by kernel_rfl)
          clear hd
          refine ⟨_, rfl, fun K hK => ?_⟩
          obtain ⟨A_, c_, e_, _, C_⟩ : (Fact.seq (Kd.int .u8) (flipI l0 l3)).p (v 14) w' := h14
          have hcv := Kd.C_string (P := Try.prog) (A := A_) (c := c_) Try.underlying28 Try.underlying5 Try.underlying9 C_
          refine value_ (w1 := w') (v := .string (strOfNums (flipI l0 l3))) (wanted_on rfl rfl rfl (by show some (v 5) = _; rw [h5])) rfl ?_ (hK.out _ _ rfl (Grew.refl _))
          clear hK C_
          generalize ((flipI l0 l3)).length = n_ at e_ hcv
          go_simp
          (try rfl)
        refine gat_cons ?_ ?_
        · intro v w' hg hd
          have h5 : v 5 = .bool true := hd 5 (by kernel_rfl)
          have h11 : v 11 = .string (strOfNums (flipI l0 l3)) := hd 11 (by kernel_rfl)
          have h15 : v 15 = .string (strOfNums (flipI l0 l3)) := hd 15 (by kernel_rfl)
          clear hd
          refine ⟨_, rfl, fun K hK => ?_⟩
          refine value_ (w1 := w') (v := .bool true) (wanted_on rfl rfl rfl (by show some (v 5) = _; rw [h5])) rfl ?_ (hK.out _ _ rfl (Grew.refl _))
          clear hK
          go_simp
          (try (simp))
        refine gat_cons ?_ ?_
        · intro v w' hg hd
          have h5 : v 5 = .bool true := hd 5 (by kernel_rfl)
          have h16 : v 16 = .bool true := hd 16 (by kernel_rfl)
          clear hd
          refine ⟨_, rfl, fun K hK => ?_⟩
          refine value_ (w1 := w') (v := .bool true) rfl rfl ?_ (hK.out _ _ rfl (Grew.refl _))
          clear hK
          go_simp
          (try rfl)
        refine gat_cons ?_ ?_
        · intro v w' hg hd
          have h17 : v 17 = .bool true := hd 17 (by kernel_rfl)
          clear hd
          refine ⟨_, rfl, fun K hK => ?_⟩
          exact value_ (w1 := w') (v := v 17) rfl rfl rfl (hK.out _ _ h17 (Grew.refl _))
        refine gat_cons ?_ ?_
        · intro v w' hg hd
          have h18 : v 18 = .bool true := hd 18 (by kernel_rfl)
          clear hd
          refine ⟨_, rfl, fun K hK => ?_⟩
          exact value_ (w1 := w') (v := (.slice A0 l0.length c0)) (wanted_on rfl rfl rfl (by show some (v 18) = _; rw [h18])) rfl rfl (hK.out _ _ ((Fact.seq (Kd.int .u8) l0).mono s0 hg) (Grew.refl _))
        refine gat_cons ?_ ?_
        · intro v w' hg hd
          have h18 : v 18 = .bool true := hd 18 (by kernel_rfl)
          clear hd
          refine ⟨_, rfl, fun K hK => ?_⟩
          exact value_ (w1 := w') (v := (.slice A1 l1.length c1)) (wanted_on rfl rfl rfl (by show some (v 18) = _; rw [h18])) rfl rfl (hK.out _ _ ((Fact.seq (Kd.int .u8) l1).mono s1 hg) (Grew.refl _))
        refine gat_cons ?_ ?_
        · intro v w' hg hd
          have h18 : v 18 = .bool true := hd 18 (by kernel_rfl)
          clear hd
          refine ⟨_, rfl, fun K hK => ?_⟩
          exact value_ (w1 := w') (v := (.slice A2 l2.length c2)) (wanted_on rfl rfl rfl (by show some (v 18) = _; rw [h18])) rfl rfl (hK.out _ _ ((Fact.seq (Kd.int .u8) l2).mono s2 hg) (Grew.refl _))
        refine gat_cons ?_ ?_
        · intro v w' hg hd
          have h18 : v 18 = .bool true := hd 18 (by kernel_rfl)
          have h19 : (Fact.seq (Kd.int .u8) l0).p (v 19) w' := hd 19 (by kernel_rfl)
          have h20 : (Fact.seq (Kd.int .u8) l1).p (v 20) w' := hd 20 (by kernel_rfl)
          have h21 : (Fact.seq (Kd.int .u8) l2).p (v 21) w' := hd 21 (by kernel_rfl)
          clear hd
          refine ⟨_, rfl, fun K hK => ?_⟩
          refine goes_ Try.func22 (by kernel_rfl) rfl #[v 19, v 20, v 21] (wanted_on rfl rfl rfl (by show some (v 18) = _; rw [h18])) rfl rfl (by (try simp only [List.map_toArray, List.map_cons, List.map_nil]); first | done | rfl) ?_
          refine (mix_g h19 h20 h21 b0 b1 b2 (by have := HM.out.1.1; omega) (by have := HM.out.2.1; omega)).mono ?_
          rintro e w'' ⟨u, rfl, hu, hb⟩
          exact ⟨_, rfl, hK.out _ _ hu hb⟩
        refine gat_cons ?_ ?_
        · intro v w' hg hd
          have h18 : v 18 = .bool true := hd 18 (by kernel_rfl)
          have h22 : (Fact.seq (Kd.int .u8) (mixI l0 l1 l2)).p (v 22) w' := hd 22 (by kernel_rfl)
          clear hd
          refine ⟨_, rfl, fun K hK => ?_⟩
          obtain ⟨A_, c_, e_, _, C_⟩ : (Fact.seq (Kd.int .u8) (mixI l0 l1 l2)).p (v 22) w' := h22
          have hcv := Kd.C_string (P := Try.prog) (A := A_) (c := c_) Try.underlying28 Try.underlying5 Try.underlying9 C_
          refine value_ (w1 := w') (v := .string (strOfNums (mixI l0 l1 l2))) (wanted_on rfl rfl rfl (by show some (v 18) = _; rw [h18])) rfl ?_ (hK.out _ _ rfl (Grew.refl _))
          clear hK C_
          generalize ((mixI l0 l1 l2)).length = n_ at e_ hcv
          go_simp
          (try rfl)
        refine gat_cons ?_ ?_
        · intro v w' hg hd
          have h18 : v 18 = .bool true := hd 18 (by kernel_rfl)
          clear hd
          refine ⟨_, rfl, fun K hK => ?_⟩
          exact value_ (w1 := w') (v := (.slice A0 l0.length c0)) (wanted_on rfl rfl rfl (by show some (v 18) = _; rw [h18])) rfl rfl (hK.out _ _ ((Fact.seq (Kd.int .u8) l0).mono s0 hg) (Grew.refl _))
        refine gat_cons ?_ ?_
        · intro v w' hg hd
          have h18 : v 18 = .bool true := hd 18 (by kernel_rfl)
          clear hd
          refine ⟨_, rfl, fun K hK => ?_⟩
          exact value_ (w1 := w') (v := (.slice A1 l1.length c1)) (wanted_on rfl rfl rfl (by show some (v 18) = _; rw [h18])) rfl rfl (hK.out _ _ ((Fact.seq (Kd.int .u8) l1).mono s1 hg) (Grew.refl _))
        refine gat_cons ?_ ?_
        · intro v w' hg hd
          have h18 : v 18 = .bool true := hd 18 (by kernel_rfl)
          clear hd
          refine ⟨_, rfl, fun K hK => ?_⟩
          exact value_ (w1 := w') (v := (.slice A2 l2.length c2)) (wanted_on rfl rfl rfl (by show some (v 18) = _; rw [h18])) rfl rfl (hK.out _ _ ((Fact.seq (Kd.int .u8) l2).mono s2 hg) (Grew.refl _))
        refine gat_cons ?_ ?_
        · intro v w' hg hd
          have h18 : v 18 = .bool true := hd 18 (by kernel_rfl)
          have h24 : (Fact.seq (Kd.int .u8) l0).p (v 24) w' := hd 24 (by kernel_rfl)
          have h25 : (Fact.seq (Kd.int .u8) l1).p (v 25) w' := hd 25 (by kernel_rfl)
          have h26 : (Fact.seq (Kd.int .u8) l2).p (v 26) w' := hd 26 (by kernel_rfl)
          clear hd
          refine ⟨_, rfl, fun K hK => ?_⟩
          refine goes_ Try.func28 (by kernel_rfl) rfl #[v 24, v 25, v 26] (wanted_on rfl rfl rfl (by show some (v 18) = _; rw [h18])) rfl rfl (by (try simp only [List.map_toArray, List.map_cons, List.map_nil]); first | done | rfl) ?_
          refine (refmix_g h24 h25 h26 b0 b1 b2 (by have := HM.out.1.1; omega)).mono ?_
          rintro e w'' ⟨u, rfl, hu, hb⟩
          exact ⟨_, rfl, hK.out _ _ hu hb⟩
        refine gat_cons ?_ ?_
        · intro v w' hg hd
          have h18 : v 18 = .bool true := hd 18 (by kernel_rfl)
          have h27 : (Fact.seq (Kd.int .u8) (mixI l0 l1 l2)).p (v 27) w' := hd 27 (by kernel_rfl)
          clear hd
          refine ⟨_, rfl, fun K hK => ?_⟩
          obtain ⟨A_, c_, e_, _, C_⟩ : (Fact.seq (Kd.int .u8) (mixI l0 l1 l2)).p (v 27) w' := h27
          have hcv := Kd.C_string (P := Try.prog) (A := A_) (c := c_) Try.underlying28 Try.underlying5 Try.underlying9 C_
          refine value_ (w1 := w') (v := .string (strOfNums (mixI l0 l1 l2))) (wanted_on rfl rfl rfl (by show some (v 18) = _; rw [h18])) rfl ?_ (hK.out _ _ rfl (Grew.refl _))
          clear hK C_
          generalize ((mixI l0 l1 l2)).length = n_ at e_ hcv
          go_simp
          (try rfl)
        refine gat_cons ?_ ?_
        · intro v w' hg hd
          have h18 : v 18 = .bool true := hd 18 (by kernel_rfl)
          have h23 : v 23 = .string (strOfNums (mixI l0 l1 l2)) := hd 23 (by kernel_rfl)
          have h28 : v 28 = .string (strOfNums (mixI l0 l1 l2)) := hd 28 (by kernel_rfl)
          clear hd
          refine ⟨_, rfl, fun K hK => ?_⟩
          refine value_ (w1 := w') (v := .bool true) (wanted_on rfl rfl rfl (by show some (v 18) = _; rw [h18])) rfl ?_ (hK.out _ _ rfl (Grew.refl _))
          clear hK
          go_simp
          (try (simp))
        refine gat_cons ?_ ?_
        · intro v w' hg hd
          have h18 : v 18 = .bool true := hd 18 (by kernel_rfl)
          have h29 : v 29 = .bool true := hd 29 (by kernel_rfl)
          clear hd
          refine ⟨_, rfl, fun K hK => ?_⟩
          refine value_ (w1 := w') (v := .bool true) rfl rfl ?_ (hK.out _ _ rfl (Grew.refl _))
          clear hK
          go_simp
          (try rfl)
        refine gat_cons ?_ ?_
        · intro v w' hg hd
          have h30 : v 30 = .bool true := hd 30 (by kernel_rfl)
          clear hd
          refine ⟨_, rfl, fun K hK => ?_⟩
          exact value_ (w1 := w') (v := v 30) rfl rfl rfl (hK.out _ _ h30 (Grew.refl _))
        refine gat_cons ?_ ?_
        · intro v w' hg hd
          have h31 : v 31 = .bool true := hd 31 (by kernel_rfl)
          clear hd
          refine ⟨_, rfl, fun K hK => ?_⟩
          exact value_ (w1 := w') (v := (.slice A0 l0.length c0)) (wanted_on rfl rfl rfl (by show some (v 31) = _; rw [h31])) rfl rfl (hK.out _ _ ((Fact.seq (Kd.int .u8) l0).mono s0 hg) (Grew.refl _))
        refine gat_cons ?_ ?_
        · intro v w' hg hd
          have h31 : v 31 = .bool true := hd 31 (by kernel_rfl)
          clear hd
          refine ⟨_, rfl, fun K hK => ?_⟩
          exact value_ (w1 := w') (v := (.int .i64 (k : Int))) (wanted_on rfl rfl rfl (by show some (v 31) = _; rw [h31])) rfl rfl (hK.out _ _ rfl (Grew.refl _))
        refine gat_cons ?_ ?_
        · intro v w' hg hd
          have h31 : v 31 = .bool true := hd 31 (by kernel_rfl)
          have h32 : (Fact.seq (Kd.int .u8) l0).p (v 32) w' := hd 32 (by kernel_rfl)
          have h33 : v 33 = .int .i64 (k : Int) := hd 33 (by kernel_rfl)
          clear hd
          refine ⟨_, rfl, fun K hK => ?_⟩
          obtain ⟨u', hrun, hu'⟩ := take_g (u := v 32) h32 (HY.out.1.1)
          have e1_ : v 33 = _ := h33
          refine value_ (w1 := w') (v := u') (wanted_on rfl rfl rfl (by show some (v 31) = _; rw [h31])) rfl ?_ (hK.out _ _ hu' (Grew.refl _))
          clear hK
          go_simp
          (try rfl)
        refine gat_cons ?_ ?_
        · intro v w' hg hd
          have h31 : v 31 = .bool true := hd 31 (by kernel_rfl)
          clear hd
          refine ⟨_, rfl, fun K hK => ?_⟩
          exact value_ (w1 := w') (v := (.slice A1 l1.length c1)) (wanted_on rfl rfl rfl (by show some (v 31) = _; rw [h31])) rfl rfl (hK.out _ _ ((Fact.seq (Kd.int .u8) l1).mono s1 hg) (Grew.refl _))
        refine gat_cons ?_ ?_
        · intro v w' hg hd
          have h31 : v 31 = .bool true := hd 31 (by kernel_rfl)
          clear hd
          refine ⟨_, rfl, fun K hK => ?_⟩
          exact value_ (w1 := w') (v := (.int .i64 (k : Int))) (wanted_on rfl rfl rfl (by show some (v 31) = _; rw [h31])) rfl rfl (hK.out _ _ rfl (Grew.refl _))
        refine gat_cons ?_ ?_
        · intro v w' hg hd
          have h31 : v 31 = .bool true := hd 31 (by kernel_rfl)
          have h35 : (Fact.seq (Kd.int .u8) l1).p (v 35) w' := hd 35 (by kernel_rfl)
          have h36 : v 36 = .int .i64 (k : Int) := hd 36 (by kernel_rfl)
          clear hd
          refine ⟨_, rfl, fun K hK => ?_⟩
          obtain ⟨u', hrun, hu'⟩ := take_g (u := v 35) h35 (HY.out.1.2)
          have e1_ : v 36 = _ := h36
          refine value_ (w1 := w') (v := u') (wanted_on rfl rfl rfl (by show some (v 31) = _; rw [h31])) rfl ?_ (hK.out _ _ hu' (Grew.refl _))
          clear hK
          go_simp
          (try rfl)
        refine gat_cons ?_ ?_
        · intro v w' hg hd
          have h31 : v 31 = .bool true := hd 31 (by kernel_rfl)
          clear hd
          refine ⟨_, rfl, fun K hK => ?_⟩
          exact value_ (w1 := w') (v := (.slice A2 l2.length c2)) (wanted_on rfl rfl rfl (by show some (v 31) = _; rw [h31])) rfl rfl (hK.out _ _ ((Fact.seq (Kd.int .u8) l2).mono s2 hg) (Grew.refl _))
        refine gat_cons ?_ ?_
        · intro v w' hg hd
          have h31 : v 31 = .bool true := hd 31 (by kernel_rfl)
          have h34 : (Fact.seq (Kd.int .u8) (l0.take k)).p (v 34) w' := hd 34 (by kernel_rfl)
          have h37 : (Fact.seq (Kd.int .u8) (l1.take k)).p (v 37) w' := hd 37 (by kernel_rfl)
          have h38 : (Fact.seq (Kd.int .u8) l2).p (v 38) w' := hd 38 (by kernel_rfl)
          clear hd
          refine ⟨_, rfl, fun K hK => ?_⟩
          refine goes_ Try.func22 (by kernel_rfl) rfl #[v 34, v 37, v 38] (wanted_on rfl rfl rfl (by show some (v 31) = _; rw [h31])) rfl rfl (by (try simp only [List.map_toArray, List.map_cons, List.map_nil]); first | done | rfl) ?_
          refine (mix_g h34 h37 h38 (bytes_take b0 k) (bytes_take b1 k) b2 (by have := HY.out.2.2; omega) (by have := HM.out.2.1; omega)).mono ?_
          rintro e w'' ⟨u, rfl, hu, hb⟩
          exact ⟨_, rfl, hK.out _ _ hu hb⟩
        refine gat_cons ?_ ?_
        · intro v w' hg hd
          have h31 : v 31 = .bool true := hd 31 (by kernel_rfl)
          have h39 : (Fact.seq (Kd.int .u8) (mixI (l0.take k) (l1.take k) l2)).p (v 39) w' := hd 39 (by kernel_rfl)
          clear hd
          refine ⟨_, rfl, fun K hK => ?_⟩
          obtain ⟨A_, c_, e_, _, C_⟩ : (Fact.seq (Kd.int .u8) (mixI (l0.take k) (l1.take k) l2)).p (v 39) w' := h39
          have hcv := Kd.C_string (P := Try.prog) (A := A_) (c := c_) Try.underlying28 Try.underlying5 Try.underlying9 C_
          refine value_ (w1 := w') (v := .string (strOfNums (mixI (l0.take k) (l1.take k) l2))) (wanted_on rfl rfl rfl (by show some (v 31) = _; rw [h31])) rfl ?_ (hK.out _ _ rfl (Grew.refl _))
          clear hK C_
          generalize ((mixI (l0.take k) (l1.take k) l2)).length = n_ at e_ hcv
          go_simp
          (try rfl)
        refine gat_cons ?_ ?_
        · intro v w' hg hd
          have h31 : v 31 = .bool true := hd 31 (by kernel_rfl)
          clear hd
          refine ⟨_, rfl, fun K hK => ?_⟩
          exact value_ (w1 := w') (v := (.slice A0 l0.length c0)) (wanted_on rfl rfl rfl (by show some (v 31) = _; rw [h31])) rfl rfl (hK.out _ _ ((Fact.seq (Kd.int .u8) l0).mono s0 hg) (Grew.refl _))
        refine gat_cons ?_ ?_
        · intro v w' hg hd
          have h31 : v 31 = .bool true := hd 31 (by kernel_rfl)
          clear hd
          refine ⟨_, rfl, fun K hK => ?_⟩
          exact value_ (w1 := w') (v := (.int .i64 (k : Int))) (wanted_on rfl rfl rfl (by show some (v 31) = _; rw [h31])) rfl rfl (hK.out _ _ rfl (Grew.refl _))
        refine gat_cons ?_ ?_
        · intro v w' hg hd
          have h31 : v 31 = .bool true := hd 31 (by kernel_rfl)
          have h41 : (Fact.seq (Kd.int .u8) l0).p (v 41) w' := hd 41 (by kernel_rfl)
          have h42 : v 42 = .int .i64 (k : Int) := hd 42 (by kernel_rfl)
          clear hd
          refine ⟨_, rfl, fun K hK => ?_⟩
          obtain ⟨u', hrun, hu'⟩ := take_g (u := v 41) h41 (HY.out.1.1)
          have e1_ : v 42 = _ := h42
          refine value_ (w1 := w') (v := u') (wanted_on rfl rfl rfl (by show some (v 31) = _; rw [h31])) rfl ?_ (hK.out _ _ hu' (Grew.refl _))
          clear hK
          go_simp
          (try rfl)
        refine gat_cons ?_ ?_
        · intro v w' hg hd
          have h31 : v 31 = .bool true := hd 31 (by kernel_rfl)
          clear hd
          refine ⟨_, rfl, fun K hK => ?_⟩
          exact value_ (w1 := w') (v := (.slice A1 l1.length c1)) (wanted_on rfl rfl rfl (by show some (v 31) = _; rw [h31])) rfl rfl (hK.out _ _ ((Fact.seq (Kd.int .u8) l1).mono s1 hg) (Grew.refl _))
        refine gat_cons ?_ ?_
        · intro v w' hg hd
          have h31 : v 31 = .bool true := hd 31 (by kernel_rfl)
          clear hd
          refine ⟨_, rfl, fun K hK => ?_⟩
          exact value_ (w1 := w') (v := (.int .i64 (k : Int))) (wanted_on rfl rfl rfl (by show some (v 31) = _; rw [h31])) rfl rfl (hK.out _ _ rfl (Grew.refl _))
        refine gat_cons ?_ ?_
        · intro v w' hg hd
          have h31 : v 31 = .bool true := hd 31 (by kernel_rfl)
          have h44 : (Fact.seq (Kd.int .u8) l1).p (v 44) w' := hd 44 (by kernel_rfl)
          have h45 : v 45 = .int .i64 (k : Int) := hd 45 (by kernel_rfl)
          clear hd
          refine ⟨_, rfl, fun K hK => ?_⟩
          obtain ⟨u', hrun, hu'⟩ := take_g (u := v 44) h44 (HY.out.1.2)
          have e1_ : v 45 = _ := h45
          refine value_ (w1 := w') (v := u') (wanted_on rfl rfl rfl (by show some (v 31) = _; rw [h31])) rfl ?_ (hK.out _ _ hu' (Grew.refl _))
          clear hK
          go_simp
          (try rfl)
        refine gat_cons ?_ ?_
        · intro v w' hg hd
          have h31 : v 31 = .bool true := hd 31 (by kernel_rfl)
          clear hd
          refine ⟨_, rfl, fun K hK => ?_⟩
          exact value_ (w1 := w') (v := (.slice A2 l2.length c2)) (wanted_on rfl rfl rfl (by show some (v 31) = _; rw [h31])) rfl rfl (hK.out _ _ ((Fact.seq (Kd.int .u8) l2).mono s2 hg) (Grew.refl _))
        refine gat_cons ?_ ?_
        · intro v w' hg hd
          have h31 : v 31 = .bool true := hd 31 (by kernel_rfl)
          have h43 : (Fact.seq (Kd.int .u8) (l0.take k)).p (v 43) w' := hd 43 (by kernel_rfl)
          have h46 : (Fact.seq (Kd.int .u8) (l1.take k)).p (v 46) w' := hd 46 (by kernel_rfl)
          have h47 : (Fact.seq (Kd.int .u8) l2).p (v 47) w' := hd 47 (by kernel_rfl)
          clear hd
          refine ⟨_, rfl, fun K hK => ?_⟩
          refine goes_ Try.func28 (by kernel_rfl) rfl #[v 43, v 46, v 47] (wanted_on rfl rfl rfl (by show some (v 31) = _; rw [h31])) rfl rfl (by (try simp only [List.map_toArray, List.map_cons, List.map_nil]); first | done | rfl) ?_
          refine (refmix_g h43 h46 h47 (bytes_take b0 k) (bytes_take b1 k) b2 HY.out.2.2).mono ?_
          rintro e w'' ⟨u, rfl, hu, hb⟩
          exact ⟨_, rfl, hK.out _ _ hu hb⟩
        refine gat_cons ?_ ?_
        · intro v w' hg hd
          have h31 : v 31 = .bool true := hd 31 (by kernel_rfl)
          have h48 : (Fact.seq (Kd.int .u8) (mixI (l0.take k) (l1.take k) l2)).p (v 48) w' := hd 48 (by kernel_rfl)
          clear hd
          refine ⟨_, rfl, fun K hK => ?_⟩
          obtain ⟨A_, c_, e_, _, C_⟩ : (Fact.seq (Kd.int .u8) (mixI (l0.take k) (l1.take k) l2)).p (v 48) w' := h48
          have hcv := Kd.C_string (P := Try.prog) (A := A_) (c := c_) Try.underlying28 Try.underlying5 Try.underlying9 C_
          refine value_ (w1 := w') (v := .string (strOfNums (mixI (l0.take k) (l1.take k) l2))) (wanted_on rfl rfl rfl (by show some (v 31) = _; rw [h31])) rfl ?_ (hK.out _ _ rfl (Grew.refl _))
          clear hK C_
          generalize ((mixI (l0.take k) (l1.take k) l2)).length = n_ at e_ hcv
          go_simp
          (try rfl)
        refine gat_cons ?_ ?_
        · intro v w' hg hd
          have h31 : v 31 = .bool true := hd 31 (by kernel_rfl)
          have h40 : v 40 = .string (strOfNums (mixI (l0.take k) (l1.take k) l2)) := hd 40 (by kernel_rfl)
          have h49 : v 49 = .string (strOfNums (mixI (l0.take k) (l1.take k) l2)) := hd 49 (by kernel_rfl)
          clear hd
          refine ⟨_, rfl, fun K hK => ?_⟩
          refine value_ (w1 := w') (v := .bool true) (wanted_on rfl rfl rfl (by show some (v 31) = _; rw [h31])) rfl ?_ (hK.out _ _ rfl (Grew.refl _))
          clear hK
          go_simp
          (try (simp))
        refine gat_cons ?_ ?_
        · intro v w' hg hd
          have h31 : v 31 = .bool true := hd 31 (by kernel_rfl)
          have h50 : v 50 = .bool true := hd 50 (by kernel_rfl)
          clear hd
          refine ⟨_, rfl, fun K hK => ?_⟩
          refine value_ (w1 := w') (v := .bool true) rfl rfl ?_ (hK.out _ _ rfl (Grew.refl _))
          clear hK
          go_simp
          (try rfl)
        refine gat_cons ?_ ?_
        · intro v w' hg hd
          have h51 : v 51 = .bool true := hd 51 (by kernel_rfl)
          clear hd
          refine ⟨_, rfl, fun K hK => ?_⟩
          exact value_ (w1 := w') (v := v 51) rfl rfl rfl (hK.out _ _ h51 (Grew.refl _))
        exact gat_nil
      intro v w5 hg hd
      have h8 : v 52 = .bool true := hd 52 (by decide)
      clear hd
      generalize v 52 = u8 at h8 ⊢
      subst h8
      have G5 := G4.out.step hg
      try go_wp2
      go_ret
      exact ⟨rfl, G5⟩
end Go.Proofs.YtnlbekdjepkhcaaBM
