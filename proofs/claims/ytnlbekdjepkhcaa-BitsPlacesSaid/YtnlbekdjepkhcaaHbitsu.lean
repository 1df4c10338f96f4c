import Derived.Test.YtnlbekdjepkhcaaFr
import Derived.Test.YtnlbekdjepkhcaaTy
import Derived.Test.YtnlbekdjepkhcaaHbits
import Derived.Test.YtnlbekdjepkhcaaMw
set_option linter.unusedVariables false
set_option linter.unusedSimpArgs false
namespace Go.Proofs.YtnlbekdjepkhcaaF
open Go Go.Shelf Go.Proofs.YtnlbekdjepkhcaaS Ram
set_option maxRecDepth 20000 in
set_option maxHeartbeats 1000000 in
theorem appendSeq_ok (la : List UInt8) (u1 : Value) (b : Nat) (W : World) (hb : Arr 28 b [u1] W) (h1 : Ps No (Seq kB la u1) W) (g1 : la.length ≤ 1048576) :
    CW Try.prog 52 #[(Value.slice none 0 0), (Value.func (.func 53) #[] #[(ptr b 0)])] W (Rt (ROw 3 eN (onesP la) W)) := by
 have oW : Only No W W := Only.refl _ _
 refine enter (al := [(Value.slice none 0 0), (Value.func (.func 53) #[] #[(ptr b 0)])]) (k := 11) (l := ([(Value.slice none 0 0), (Value.func (.func 53) #[] #[(ptr b 0)])] ++ (us 11))) Try.func52 rfl Try.ntmps52 rfl rfl ?_
 refine wpIn_seq ?_
 refine plain ?_
 refine wO (d_box rfl rfl) ?_
 rintro _ w11 ⟨c, rfl, g12, a13, o14⟩
 have n_b_c : b ≠ c := hb.ne g12
 have g_oW_c : W.heap.size ≤ c := Nat.le_trans oW.size g12
 replace h1 := h1.new o14 g12
 replace hb := hb.step0 o14
 replace oW := oW.tail0 o14
 refine wI (d_assign rfl) ?_
 refine wF ([(Value.slice none 0 0), (Value.func (.func 53) #[] #[(ptr b 0)]), (ptr c 0), undef, (Value.slice none 0 0)] ++ (us 8)) ?_
 refine wpL.done ?_
 refine then_n ?_
 refine wpIn_seq ?_
 refine wpIn_seq ?_
 have a15 : Ow 3 1 none (Value.slice none 0 0) ([] : List Nat).length (([] : List Nat).map eN) w11 := Ow.nil _ _ _
 have nq_o_b : ∀ x, (none : Option Nat) = some x → ¬ x = b := fun x e => by cases e
 have nq_o_c : ∀ x, (none : Option Nat) = some x → ¬ x = c := fun x e => by cases e
 have q_oW_o : Fr none none W.heap.size := Fr.none
 replace h1 := h1.qnone
 refine plain ?_
 refine wI (d_move rfl) ?_
 refine wF ([(Value.slice none 0 0), (Value.func (.func 53) #[] #[(ptr b 0)]), (ptr c 0), undef, (Value.slice none 0 0), undef, (Value.func (.func 53) #[] #[(ptr b 0)])] ++ (us 6)) ?_
 refine wpL.done ?_
 refine then_n ?_
 refine wpIn_block ?_
 have h_lt_b := hb.lt
 have h_lt_c := a13.lt
 have h_lts_o := a15.lts
 have tq_oW := oW.size
 have nO_b : ¬ (Orq none (Or1 c No)) b := (not_orq (fun x hx e => nq_o_b x hx e) (not_or1 n_b_c not_no))
 obtain ⟨D_, hD_⟩ : ∃ D_, w11.heap.size = D_ := ⟨_, rfl⟩
 obtain ⟨L_, hL_⟩ : ∃ L_, w11.heap.size + 1 = L_ := ⟨_, rfl⟩
 refine range_ (encs := (fun x => [eN x])) (Pv := No) (O := (Orq none (Or1 c No))) (xs := (onesP la)) (D := D_) (L := L_) (rs := []) hD_ hL_ rfl Try.func53 (by kernel_rfl) rfl (iter_bitsOnes la u1 b (by first | omega | (simp; done) | (simp; omega)) hb nO_b h1 (orq_mono (or1_mono no_any))) (fun k t => t.elim) (fun _ => rfl) (lt_orq h_lts_o (lt_or1 h_lt_c lt_no)) (fun (pre : List Nat) (w_ : World) => ∃ (bo_o : Option Nat) (u_o : Value), Only (Orq none (Or1 c No)) w11 w_ ∧ Arr 28 b [u1] w_ ∧ Arr 29 c [u_o] w_ ∧ Ow 3 1 bo_o u_o (pre).length ((pre).map eN) w_ ∧ Fr bo_o none w11.heap.size ∧ (∀ x, bo_o = some x → ¬ x = D_) ∧ (∀ x, bo_o = some x → ¬ x = L_)) (fun _ _ _ => False) ?_ ?_ ?_ ?_ ?_ ?_
 ·
  rintro pre w_ w2_ ⟨bo_o, u_o, o16, hb, a13, a15, qq_o, nq_o_D_, nq_o_L_⟩ ho_
  exact ⟨bo_o, u_o, o16.tail ho_ (stab_tl hD_ hL_ (fun k t => t.elim)), hb.step ho_ (stab_b hD_ hL_ h_lt_b (fun t => t.elim)), a13.step ho_ (stab_b hD_ hL_ h_lt_c (fun t => t.elim)), a15.step ho_ (stab_q nq_o_D_ nq_o_L_ (fun b hb t => t.elim)), qq_o, nq_o_D_, nq_o_L_⟩
 ·
  intro _ _ _ _ h _; exact h.elim
 ·
  refine ⟨none, (Value.slice none 0 0), ?_, ?_, ?_, ?_, ?_, ?_, ?_⟩
  ·
   exact Only.refl _ _
  ·
   exact hb
  ·
   exact a13
  ·
   exact a15
  ·
   exact Fr.same
  ·
   (try dsimp only)
   all_goals (exact fun x hx e => by have := h_lts_o x hx; omega)
  ·
   (try dsimp only)
   all_goals (exact fun x hx e => by have := h_lts_o x hx; omega)
 ·
  intro pre x w1_ hpx_ hI_ hL1_
  obtain ⟨bo_o, u_o, o16, hb, a13, a15, qq_o, nq_o_D_, nq_o_L_⟩ := hI_
  replace h1 := Ps.re (X' := (Or1 L_ (Or1 D_ (Orq bo_o (Or1 c No))))) h1 o16 (orq_mono (or1_mono no_any)) (xx_new (by omega) (xx_new (Nat.le_of_eq hD_) (xx_re qq_o (xx_or1 xx_id))))
  replace oW := oW.tail o16 (tl_q q_oW_o (fun _ e => by cases e) (tl_new g_oW_c tl_no))
  replace q_oW_o := qtr qq_o q_oW_o tq_oW
  replace nq_o_b := nqs nq_o_b qq_o h_lt_b
  replace nq_o_c := nqs nq_o_c qq_o h_lt_c
  have q_o16_o : Fr bo_o none w11.heap.size := qq_o
  have n_b_D_ : b ≠ D_ := by omega
  have n_c_D_ : c ≠ D_ := by omega
  have g_oW_D_ : W.heap.size ≤ D_ := by omega
  have g_o16_D_ : w11.heap.size ≤ D_ := by omega
  have n_b_L_ : b ≠ L_ := by omega
  have n_c_L_ : c ≠ L_ := by omega
  have g_oW_L_ : W.heap.size ≤ L_ := by omega
  have g_o16_L_ : w11.heap.size ≤ L_ := by omega
  have n_D__L_ : D_ ≠ L_ := by omega
  have aL_ : Dead L_ w1_ := hL1_
  have aD_ : Dead D_ w1_ := by unfold Dead; omega
  refine wp_eq (l' := ([(Value.slice none 0 0), (Value.func (.func 53) #[] #[(ptr b 0)]), (ptr c 0), undef, (Value.slice none 0 0), undef, (Value.func (.func 53) #[] #[(ptr b 0)]), (eN x)] ++ (us 5))) (by kernel_rfl) ?_
  refine plain ?_
  refine wI (d_assign rfl) ?_
  refine wF ([(Value.slice none 0 0), (Value.func (.func 53) #[] #[(ptr b 0)]), (ptr c 0), undef, (Value.slice none 0 0), (eN x), (Value.func (.func 53) #[] #[(ptr b 0)]), (eN x)] ++ (us 5)) ?_
  refine wpL.done ?_
  refine then_n ?_
  refine ⟨Only.refl _ _, fun w2_ oL_ _ => ?_⟩
  replace h1 := h1.stepb oL_ in1
  replace hb := hb.step oL_ (fun e => absurd e n_b_L_)
  replace a13 := a13.step oL_ (fun e => absurd e n_c_L_)
  replace aD_ := aD_.step oL_ (fun e => absurd e n_D__L_)
  replace a15 := a15.step oL_ (fun x hx e => nq_o_L_ x hx e)
  replace oW := oW.tailb oL_ g_oW_L_
  replace o16 := o16.tailb oL_ g_o16_L_
  replace aL_ : Dead L_ w2_ := Nat.lt_of_lt_of_le aL_ oL_.size
  have oR_ : Only (fun k => (Orq none (Or1 c No)) k ∨ L_ < k) w2_ w2_ := Only.refl _ _
  have nqD0_o := nq_o_D_
  have nqL0_o := nq_o_L_
  have q_oR__o : Fr bo_o bo_o w2_.heap.size := Fr.same
  have hp_ := pre_len hpx_
  refine wpIn_block ?_
  refine plain ?_
  refine wI (d_load (v := u_o) ⟨_, Try.underlying29, rfl⟩ rfl a13 rfl) ?_
  refine wI (d_move rfl) ?_
  refine wO (d_buildL (cs := [(eN x)]) Try.underlying29 s_ti3 rfl (nb rfl) (parts_cons (vs := [(eN x)]) (cells_of (v := (eN x)) rfl rfl) parts_nil) rfl) ?_
  rintro _ w18 ⟨b17, rfl, g19, a20, o21⟩
  replace a20 : Arr 3 b17 (([x] : List Nat).map eN) w18 := a20
  have l_b17 : ([x] : List Nat).length = 1 := rfl
  have n_b_b17 : b ≠ b17 := hb.ne g19
  have n_c_b17 : c ≠ b17 := a13.ne g19
  have n_D__b17 : D_ ≠ b17 := aD_.ne g19
  have n_L__b17 : L_ ≠ b17 := aL_.ne g19
  have nq_o_b17 : ∀ x, bo_o = some x → ¬ x = b17 := fun x hx e => by have := a15.lts x hx; omega
  have g_oW_b17 : W.heap.size ≤ b17 := Nat.le_trans oW.size g19
  have g_o16_b17 : w11.heap.size ≤ b17 := Nat.le_trans o16.size g19
  have g_oR__b17 : w2_.heap.size ≤ b17 := Nat.le_trans oR_.size g19
  replace h1 := h1.new o21 g19
  replace hb := hb.step0 o21
  replace a13 := a13.step0 o21
  replace aD_ := aD_.step0 o21
  replace aL_ := aL_.step0 o21
  replace a15 := a15.step0 o21
  replace oW := oW.tail0 o21
  replace o16 := o16.tail0 o21
  replace oR_ := oR_.tail0 o21
  refine wF [(Value.slice none 0 0), (Value.func (.func 53) #[] #[(ptr b 0)]), (ptr c 0), undef, (Value.slice none 0 0), (eN x), (Value.func (.func 53) #[] #[(ptr b 0)]), (eN x), u_o, (eN x), (sli b17 0 1 1), undef, undef] ?_
  refine wO (d_append Try.underlying29 Try.underlying29 s_ti3 rfl rfl rfl a15 (SrcV.of_seq (arr_seq a20 l_b17 (Nat.le_refl _)) (fun _ => rfl)) (by simp; omega) (by simp; omega) rfl) ?_
  rintro u22 w23 ⟨bo24, a25, o26, q27⟩
  replace a25 : Ow 3 1 bo24 u22 (pre ++ ([x] : List Nat)).length ((pre ++ ([x] : List Nat)).map eN) w23 := by rw [List.length_append, List.map_append]; exact a25
  replace h1 := h1.gr o26 (fun k e => (.inr (.inr (.inr (.inl e))))) (xx_or1 (xx_or1 (xx_or1 (xx_re (Fr.of_or q27) (xx_or1 xx_id)))))
  have nq2 := nqs nq_o_b (Fr.of_or q27) hb.lt
  replace hb := hb.step o26 (fun e => nq_o_b _ e rfl)
  replace nq_o_b := nq2
  clear nq2
  have nq2 := nqs nq_o_c (Fr.of_or q27) a13.lt
  replace a13 := a13.step o26 (fun e => nq_o_c _ e rfl)
  replace nq_o_c := nq2
  clear nq2
  have nq2 := nqs nq_o_D_ (Fr.of_or q27) aD_.lt
  replace aD_ := aD_.step o26 (fun e => nq_o_D_ _ e rfl)
  replace nq_o_D_ := nq2
  clear nq2
  have nq2 := nqs nq_o_L_ (Fr.of_or q27) aL_.lt
  replace aL_ := aL_.step o26 (fun e => nq_o_L_ _ e rfl)
  replace nq_o_L_ := nq2
  clear nq2
  have nq2 := nqs nq_o_b17 (Fr.of_or q27) a20.lt
  replace a20 := a20.step o26 (fun e => nq_o_b17 _ e rfl)
  replace nq_o_b17 := nq2
  clear nq2
  have tq := oW.size
  replace oW := oW.tailr o26 q_oW_o (fun _ e => by cases e)
  replace q_oW_o := qtr (Fr.of_or q27) q_oW_o tq
  clear tq
  have tq := o16.size
  replace o16 := o16.tailr o26 q_o16_o (fun k e => (.inl e))
  replace q_o16_o := qtr (Fr.of_or q27) q_o16_o tq
  clear tq
  have tq := oR_.size
  replace oR_ := oR_.tailr o26 q_oR__o (q_T qq_o (fun k e => (.inl e)) nqD0_o nqL0_o hD_ hL_)
  replace q_oR__o := qtr (Fr.of_or q27) q_oR__o tq
  clear tq
  refine wO (d_store s_ti29 rfl rfl (Ow.one a25) a13 (nb rfl) rfl) ?_
  rintro _ w28 ⟨a29, o30⟩
  replace h1 := h1.stepb o30 (in2 (in2 (in2 (inq in1))))
  replace hb := hb.step o30 (fun e => absurd e n_b_c)
  replace aD_ := aD_.step o30 (fun e => absurd e (Ne.symm n_c_D_))
  replace aL_ := aL_.step o30 (fun e => absurd e (Ne.symm n_c_L_))
  replace a20 := a20.step o30 (fun e => absurd e (Ne.symm n_c_b17))
  replace a25 := a25.step o30 (fun x hx e => nq_o_c x hx e)
  replace oW := oW.tailb o30 g_oW_c
  replace o16 := o16.tail o30 (fun k _ e => by have : k = c := e; rw [this]; exact (inq in1))
  replace oR_ := oR_.tail o30 (fun k _ e => by have : k = c := e; rw [this]; exact (Or.inl (inq in1)))
  refine wF [(Value.slice none 0 0), (Value.func (.func 53) #[] #[(ptr b 0)]), (ptr c 0), undef, (Value.slice none 0 0), (eN x), (Value.func (.func 53) #[] #[(ptr b 0)]), (eN x), u_o, (eN x), (sli b17 0 1 1), u22, undef] ?_
  refine wpL.done ?_
  refine inb_n ?_
  refine ⟨oR_, bo24, u22, ?_, ?_, ?_, ?_, ?_, ?_, ?_⟩
  ·
   exact o16
  ·
   exact hb
  ·
   exact a29
  ·
   exact a25
  ·
   exact q_o16_o
  ·
   exact nq_o_D_
  ·
   exact nq_o_L_
 ·
  intro w1_ hI_ aD_
  obtain ⟨bo_o, u_o, o16, hb, a13, a15, qq_o, nq_o_D_, nq_o_L_⟩ := hI_
  replace h1 := Ps.re (X' := (Or1 D_ (Orq bo_o (Or1 c No)))) h1 o16 (orq_mono (or1_mono no_any)) (xx_new (Nat.le_of_eq hD_) (xx_re qq_o (xx_or1 xx_id)))
  replace oW := oW.tail o16 (tl_q q_oW_o (fun _ e => by cases e) (tl_new g_oW_c tl_no))
  replace q_oW_o := qtr qq_o q_oW_o tq_oW
  replace nq_o_b := nqs nq_o_b qq_o h_lt_b
  replace nq_o_c := nqs nq_o_c qq_o h_lt_c
  have q_o16_o : Fr bo_o none w11.heap.size := qq_o
  have n_b_D_ : b ≠ D_ := by omega
  have n_c_D_ : c ≠ D_ := by omega
  have g_oW_D_ : W.heap.size ≤ D_ := by omega
  have g_o16_D_ : w11.heap.size ≤ D_ := by omega
  refine inb_n (then_n ?_)
  refine wpIn_seq ?_
  refine plain ?_
  refine wI (d_load (v := u_o) ⟨_, Try.underlying29, rfl⟩ rfl a13 rfl) ?_
  refine wI (d_assign rfl) ?_
  refine wF ([(Value.slice none 0 0), (Value.func (.func 53) #[] #[(ptr b 0)]), (ptr c 0), undef, u_o, undef, (Value.func (.func 53) #[] #[(ptr b 0)])] ++ (us 5 ++ [u_o])) ?_
  refine wpL.done ?_
  refine then_n ?_
  refine wpIn_ret ?_
  refine leave (marks_ok aD_) (fun w31 o32 => ⟨res1 Try.results52 rfl, ?_⟩)
  replace o32 := only_mem o32
  replace h1 := h1.stepb o32 in1
  replace hb := hb.step o32 (fun e => absurd e n_b_D_)
  replace a13 := a13.step o32 (fun e => absurd e n_c_D_)
  replace a15 := a15.step o32 (fun x hx e => nq_o_D_ x hx e)
  replace oW := oW.tailb o32 g_oW_D_
  replace o16 := o16.tailb o32 g_o16_D_
  exact ROw.mk_ a15 rfl q_oW_o oW
 ·
  intro _ _ _ _ h _; exact h.elim

set_option maxRecDepth 20000 in
set_option maxHeartbeats 1000000 in
theorem collect_ok (la : List UInt8) (u1 : Value) (b : Nat) (W : World) (hb : Arr 28 b [u1] W) (h1 : Ps No (Seq kB la u1) W) (g1 : la.length ≤ 1048576) :
    CW Try.prog 41 #[(Value.func (.func 53) #[] #[(ptr b 0)])] W (Rt (ROw 3 eN (onesP la) W)) := by
 have oW : Only No W W := Only.refl _ _
 refine enter (al := [(Value.func (.func 53) #[] #[(ptr b 0)])]) (k := 4) (l := [(Value.func (.func 53) #[] #[(ptr b 0)]), undef, undef, undef, undef]) Try.func41 rfl Try.ntmps41 rfl rfl ?_
 refine wpIn_seq ?_
 refine plain ?_
 refine wI (d_assign rfl) ?_
 refine wF [(Value.func (.func 53) #[] #[(ptr b 0)]), undef, (Value.slice none 0 0), undef, undef] ?_
 refine wpL.done ?_
 refine then_n ?_
 refine wpIn_seq ?_
 refine plain ?_
 refine wI (d_move rfl) ?_
 refine wO (d_call (xl := [.const (.slice none 0 0), .tmp 3]) (al := [(Value.slice none 0 0), (Value.func (.func 53) #[] #[(ptr b 0)])]) Try.func52 (by kernel_rfl) rfl rfl rfl (appendSeq_ok la u1 b _ hb (Ps.no h1) (by first | omega | (simp; done) | (simp; omega)))) ?_
 rintro u13 w11 f14
 obtain ⟨bo15, f14, g16, o12⟩ := f14
 have nq_o_b := nq_new g16 hb.lt
 have q_oW_o := qnew g16 oW.size
 replace h1 := h1.newq o12 g16
 replace hb := hb.step0 o12
 replace oW := oW.tail0 o12
 refine wI (d_assign rfl) ?_
 refine wF [(Value.func (.func 53) #[] #[(ptr b 0)]), undef, u13, (Value.func (.func 53) #[] #[(ptr b 0)]), u13] ?_
 refine wpL.done ?_
 refine then_n ?_
 refine wpIn_ret ?_
 refine leave0 (v := u13) (res1 Try.results41 rfl) ?_
 exact ROw.mk_ f14 rfl q_oW_o oW

set_option maxRecDepth 20000 in
set_option maxHeartbeats 1000000 in
theorem bitsApart_ok (la lb : List UInt8) (u1 u2 : Value) (W : World) (h1 : Ps No (Seq kB la u1) W) (h2 : Ps No (Seq kB lb u2) W) (g1 : la.length ≤ 1048576) (g2 : lb.length ≤ 1048576) :
    CW Try.prog 19 #[u1, u2] W (Rt (ROw 3 eN (apR la lb) W)) := by
 have oW : Only No W W := Only.refl _ _
 refine enter (al := [u1, u2]) (k := 31) (l := ([u1, u2] ++ (us 31))) Try.func19 rfl Try.ntmps19 rfl rfl ?_
 refine wpIn_seq ?_
 refine plain ?_
 refine wI (d_assign rfl) ?_
 refine wF ([u1, u2, undef, undef, (Value.slice none 0 0)] ++ (us 28)) ?_
 refine wpL.done ?_
 refine then_n ?_
 refine wpIn_seq ?_
 refine wpIn_seq ?_
 refine plain ?_
 refine wI (d_move rfl) ?_
 refine wI (d_lenS rfl Try.underlying28 rfl h1) ?_
 refine wI (d_move rfl) ?_
 refine wF ([u1, u2, undef, undef, (Value.slice none 0 0), undef, undef, undef, u1, (eN la.length), u2] ++ (us 22)) ?_
 refine wI (d_lenS rfl Try.underlying28 rfl h2) ?_
 refine wI (n_neq (a := la.length) (b := lb.length) rfl rfl rfl) ?_
 refine wF ([u1, u2, undef, undef, (Value.slice none 0 0), undef, undef, undef, u1, (eN la.length), u2, (eN lb.length), (Value.bool (!decide (la.length = lb.length)))] ++ (us 20)) ?_
 refine wpL.done ?_
 refine then_n ?_
 refine cond_un rfl (fun c0 => ?_) (fun c0 => ?_)
 ·
  refine wpIn_seq ?_
  refine plain ?_
  refine wI (d_assign rfl) ?_
  refine wF ([u1, u2, undef, undef, (Value.slice none 0 0), undef, undef, undef, u1, (eN la.length), u2, (eN lb.length), (Value.bool (!decide (la.length = lb.length)))] ++ (us 20)) ?_
  refine wpL.done ?_
  refine then_n ?_
  refine wpIn_ret ?_
  refine then_r ?_
  refine leave0 (v := (Value.slice none 0 0)) (res1 Try.results19 rfl) ?_
  exact ROw.nil ((if_neg c0).symm) oW
 refine wpIn_skip ?_
 refine then_n ?_
 refine wpIn_seq ?_
 refine plain ?_
 refine wI (d_move rfl) ?_
 refine wO (d_call (xl := [.tmp 13]) (al := [u1]) Try.func40 (by kernel_rfl) rfl rfl rfl (cloneB_ok la u1 _ (Ps.no h1) (by first | omega | (simp; done) | (simp; omega)))) ?_
 rintro u13 w11 f14
 obtain ⟨bo15, f14, g16, o12⟩ := f14
 have q_oW_o := qnew g16 oW.size
 replace h1 := h1.newq o12 g16
 replace h2 := h2.newq o12 g16
 replace oW := oW.tail0 o12
 refine wI (d_assign rfl) ?_
 refine wF ([u1, u2, undef, undef, (Value.slice none 0 0), u13, undef, undef, u1, (eN la.length), u2, (eN lb.length), (Value.bool (!decide (la.length = lb.length))), u1, u13] ++ (us 18)) ?_
 refine wpL.done ?_
 refine then_n ?_
 refine forget (fun zf17 => ([(zf17 0), u2, (zf17 2), (zf17 3), (zf17 4), u13] ++ (zs zf17 6 11 ++ [undef] ++ (zs zf17 18 15)))) (by kernel_rfl) (fun zf17 => ?_)
 refine wpIn_seq ?_
 refine wpIn_seq ?_
 refine plain ?_
 refine wI (d_move rfl) ?_
 refine wI (d_lenS rfl Try.underlying28 rfl h2) ?_
 refine wI (d_move rfl) ?_
 refine wF ([(zf17 0), u2, (zf17 2), (zf17 3), (zf17 4), u13] ++ (zs zf17 6 9 ++ [u2, (eN lb.length), (eN 0)] ++ (zs zf17 18 15))) ?_
 refine wpL.done ?_
 refine then_n ?_
 refine wpIn_block ?_
 refine loop2 (fun (i : (Nat)) => fun (z : Nat → Value) => (([(zf17 0), u2, (zf17 2), (zf17 3), (zf17 4), u13, (z 6), (z 7)] ++ (zs zf17 8 7 ++ [u2, (eN lb.length), (eN i)] ++ (zs z 18 12 ++ [(zf17 30), (zf17 31), (zf17 32)]))) : List Value)) (fun (i : (Nat)) => fun (w_ : World) => (i ≤ lb.length) ∧ Only (Orq bo15 No) w11 w_ ∧ Ow 5 1 bo15 u13 (xorB la lb i).length ((xorB la lb i).map eB) w_) (fun (i : (Nat)) => lb.length - i) 0 rfl ?_ ?_
 ·
  refine ⟨?_, ?_, ?_⟩
  ·
   exact Nat.zero_le _
  ·
   exact Only.refl _ _
  ·
   (try dsimp only)
   all_goals (rw [← xorB_zero]; exact f14)
 rintro i z w19 ⟨hi, o18, f14⟩
 (try dsimp only)
 replace h1 := h1.step o18 (orq_mono no_any)
 replace h2 := h2.step o18 (orq_mono no_any)
 replace oW := oW.tail o18 (tl_q q_oW_o (fun _ e => by cases e) tl_no)
 have q_o18_o : Fr bo15 bo15 w11.heap.size := Fr.same
 have hl_ := xorB_length la lb i
 refine wpIn_seq ?_
 refine plain ?_
 refine wI (n_lss (a := i) (b := lb.length) rfl rfl rfl) ?_
 refine wF ([(zf17 0), u2, (zf17 2), (zf17 3), (zf17 4), u13, (z 6), (z 7)] ++ (zs zf17 8 7 ++ [u2, (eN lb.length), (eN i), (Value.bool (decide (i < lb.length)))] ++ (zs z 19 11 ++ [(zf17 30), (zf17 31), (zf17 32)]))) ?_
 refine wpL.done ?_
 refine then_n ?_
 refine wpIn_seq ?_
 refine cond_if rfl (fun ci => ?_) (fun ci => ?_)
 ·
  refine wpIn_skip ?_
  refine then_n ?_
  refine wpIn_seq ?_
  refine wpIn_block ?_
  refine wpIn_seq ?_
  refine plain ?_
  refine wI (d_move rfl) ?_
  refine wI (d_ix (i := i) (xs := lb) Try.underlying28 s_ti5 rfl h2 (show _ = Value.int _ ((i : Nat) : Int) from rfl) (by first | omega | (simp; done) | (simp; omega))) ?_
  refine wI (d_ldx (i := i) (xs := lb) (enc := eB) (v := (lb.getD i 0)) ⟨_, Try.underlying5, rfl⟩ rfl h2 (g_at (by first | omega | (simp; done) | (simp; omega)))) ?_
  refine wF ([(zf17 0), u2, (zf17 2), (zf17 3), (zf17 4), u13, (z 6), (z 7)] ++ (zs zf17 8 7 ++ [u2, (eN lb.length), (eN i), (Value.bool (decide (i < lb.length))), (eN i), (ixp u2 i), (eB (lb.getD i 0))] ++ (zs z 22 8 ++ [(zf17 30), (zf17 31), (zf17 32)]))) ?_
  refine wI (d_assign rfl) ?_
  refine wI (d_assign rfl) ?_
  refine wF ([(zf17 0), u2, (zf17 2), (zf17 3), (zf17 4), u13, (eN i), (eB (lb.getD i 0))] ++ (zs zf17 8 7 ++ [u2, (eN lb.length), (eN i), (Value.bool (decide (i < lb.length))), (eN i), (ixp u2 i), (eB (lb.getD i 0))] ++ (zs z 22 8 ++ [(zf17 30), (zf17 31), (zf17 32)]))) ?_
  refine wpL.done ?_
  refine then_n ?_
  refine plain ?_
  refine wI (d_move rfl) ?_
  refine wI (d_move rfl) ?_
  refine wI (d_ix (i := i) (xs := (xorB la lb i)) Try.underlying28 s_ti5 rfl (f14.seq (X := No) (fun _ _ h => h)) (show _ = Value.int _ ((i : Nat) : Int) from rfl) (by have := xorB_length la lb i; first | omega | (simp; done) | (simp; omega))) ?_
  refine wF ([(zf17 0), u2, (zf17 2), (zf17 3), (zf17 4), u13, (eN i), (eB (lb.getD i 0))] ++ (zs zf17 8 7 ++ [u2, (eN lb.length), (eN i), (Value.bool (decide (i < lb.length))), (eN i), (ixp u2 i), (eB (lb.getD i 0)), u13, (eN i), (ixp u13 i)] ++ (zs z 25 5 ++ [(zf17 30), (zf17 31), (zf17 32)]))) ?_
  refine wI (d_ldx (i := i) (xs := (xorB la lb i)) (enc := eB) (v := ((xorB la lb i).getD i 0)) ⟨_, Try.underlying5, rfl⟩ rfl (f14.seq (X := No) (fun _ _ h => h)) (g_at (by have := xorB_length la lb i; first | omega | (simp; done) | (simp; omega)))) ?_
  refine wI (d_move rfl) ?_
  refine wI (b_xor (c := ((xorB la lb i).getD i 0)) (e := (lb.getD i 0)) rfl rfl) ?_
  refine wF ([(zf17 0), u2, (zf17 2), (zf17 3), (zf17 4), u13, (eN i), (eB (lb.getD i 0))] ++ (zs zf17 8 7 ++ [u2, (eN lb.length), (eN i), (Value.bool (decide (i < lb.length))), (eN i), (ixp u2 i), (eB (lb.getD i 0)), u13, (eN i), (ixp u13 i), (eB ((xorB la lb i).getD i 0)), (eB (lb.getD i 0)), (eB (((xorB la lb i).getD i 0) ^^^ (lb.getD i 0))), (z 28), (z 29), (zf17 30), (zf17 31), (zf17 32)])) ?_
  refine wI (d_ix (i := i) (xs := (xorB la lb i)) Try.underlying28 s_ti5 rfl (f14.seq (X := No) (fun _ _ h => h)) (show _ = Value.int _ ((i : Nat) : Int) from rfl) (by have := xorB_length la lb i; first | omega | (simp; done) | (simp; omega))) ?_
  refine wO (d_stx (i := i) (xs := (xorB la lb i)) (enc := eB) (v := (((xorB la lb i).getD i 0) ^^^ (lb.getD i 0))) s_ti5 rfl rfl rfl f14 (by have := xorB_length la lb i; first | omega | (simp; done) | (simp; omega)) rfl) ?_
  rintro _ w20 ⟨a21, o22⟩
  replace h1 := h1.gr o22 (fun k e => (.inl e)) (xx_re Fr.same xx_id)
  replace h2 := h2.gr o22 (fun k e => (.inl e)) (xx_re Fr.same xx_id)
  have tq := oW.size
  replace oW := oW.tailr o22 q_oW_o (fun _ e => by cases e)
  replace q_oW_o := qtr Fr.same q_oW_o tq
  clear tq
  have tq := o18.size
  replace o18 := o18.tailr o22 q_o18_o (fun k e => (.inl e))
  replace q_o18_o := qtr Fr.same q_o18_o tq
  clear tq
  refine wF ([(zf17 0), u2, (zf17 2), (zf17 3), (zf17 4), u13, (eN i), (eB (lb.getD i 0))] ++ (zs zf17 8 7 ++ [u2, (eN lb.length), (eN i), (Value.bool (decide (i < lb.length))), (eN i), (ixp u2 i), (eB (lb.getD i 0)), u13, (eN i), (ixp u13 i), (eB ((xorB la lb i).getD i 0)), (eB (lb.getD i 0)), (eB (((xorB la lb i).getD i 0) ^^^ (lb.getD i 0))), (ixp u13 i), (z 29), (zf17 30), (zf17 31), (zf17 32)])) ?_
  refine wpL.done ?_
  refine inb_n (then_n ?_)
  refine forget (fun zf23 => ([(zf17 0), u2, (zf17 2), (zf17 3), (zf17 4), u13, (zf23 6), (zf23 7)] ++ (zs zf17 8 7 ++ [u2, (eN lb.length), (eN i)] ++ (zs zf23 18 12 ++ [(zf17 30), (zf17 31), (zf17 32)])))) (by kernel_rfl) (fun zf23 => ?_)
  refine plain ?_
  refine wI (n_add (a := i) (b := 1) rfl rfl (by omega)) ?_
  refine wI (d_move rfl) ?_
  refine wF ([(zf17 0), u2, (zf17 2), (zf17 3), (zf17 4), u13, (zf23 6), (zf23 7)] ++ (zs zf17 8 7 ++ [u2, (eN lb.length), (eN (i + 1))] ++ (zs zf23 18 11 ++ [(eN (i + 1)), (zf17 30), (zf17 31), (zf17 32)]))) ?_
  refine wpL.done ?_
  refine then_n ?_
  refine ⟨_, (i + 1), rfl, rfl, ⟨?_, ?_, ?_⟩, ?_⟩
  ·
   (try dsimp only)
   all_goals (omega)
  ·
   exact o18
  ·
   (try dsimp only)
   all_goals (rw [xorB_step (by omega)] at a21; exact a21)
  ·
   (try dsimp only)
   all_goals (omega)
 refine wpIn_exit ?_
 refine then_x (then_x (inb_e ?_))
 refine then_n ?_
 refine wpIn_seq ?_
 refine plain ?_
 refine wI (d_move rfl) ?_
 refine wO (d_call (xl := [.tmp 30]) (al := [u13]) Try.func42 (by kernel_rfl) rfl rfl rfl (bitsOnes_ok (xorB la lb i) u13 _ (Ps.no (f14.seq (X := No) (fun _ _ h => h))))) ?_
 rintro _ w24 ⟨b26, rfl, g27, a28, o25⟩
 have nq_o_b26 : ∀ x, bo15 = some x → ¬ x = b26 := fun x hx e => by have := f14.lts x hx; omega
 have g_oW_b26 : W.heap.size ≤ b26 := Nat.le_trans oW.size g27
 have g_o18_b26 : w11.heap.size ≤ b26 := Nat.le_trans o18.size g27
 replace h1 := h1.new o25 g27
 replace h2 := h2.new o25 g27
 replace f14 := f14.step0 o25
 replace oW := oW.tail0 o25
 replace o18 := o18.tail0 o25
 refine wO (d_call (xl := [.tmp 31]) (al := [(Value.func (.func 53) #[] #[(ptr b26 0)])]) Try.func41 (by kernel_rfl) rfl rfl rfl (collect_ok (xorB la lb i) u13 b26 _ a28 (Ps.no (f14.seq (X := No) (fun _ _ h => h))) (by have := xorB_length la lb i; first | omega | (simp; done) | (simp; omega)))) ?_
 rintro u31 w29 f32
 obtain ⟨bo33, f32, g34, o30⟩ := f32
 have nq_o2_b26 := nq_new g34 a28.lt
 have nqq_o_o2 := nqq_new g34 f14.lts
 have q_oW_o2 := qnew g34 oW.size
 have q_o18_o2 := qnew g34 o18.size
 replace h1 := h1.newq o30 g34
 replace h2 := h2.newq o30 g34
 replace a28 := a28.step0 o30
 replace f14 := f14.step0 o30
 replace oW := oW.tail0 o30
 replace o18 := o18.tail0 o30
 refine wF ([(zf17 0), u2, (zf17 2), (zf17 3), (zf17 4), u13, (z 6), (z 7)] ++ (zs zf17 8 7 ++ [u2, (eN lb.length), (eN i), (Value.bool (decide (i < lb.length)))] ++ (zs z 19 11 ++ [u13, (Value.func (.func 53) #[] #[(ptr b26 0)]), u31]))) ?_
 refine wI (d_assign rfl) ?_
 refine wF ([(zf17 0), u2, (zf17 2), (zf17 3), u31, u13, (z 6), (z 7)] ++ (zs zf17 8 7 ++ [u2, (eN lb.length), (eN i), (Value.bool (decide (i < lb.length)))] ++ (zs z 19 11 ++ [u13, (Value.func (.func 53) #[] #[(ptr b26 0)]), u31]))) ?_
 refine wpL.done ?_
 refine then_n ?_
 refine forget (fun zf35 => ([(zf35 0), (zf35 1), (zf35 2), (zf35 3), u31] ++ (zs zf35 5 12 ++ [(eN i)] ++ (zs zf35 18 15)))) (by kernel_rfl) (fun zf35 => ?_)
 refine wpIn_ret ?_
 refine leave0 (v := u31) (res1 Try.results19 rfl) ?_
 exact ROw.mk_ f32 (by rw [xorB_ones c0 (by omega)]; exact (if_pos c0).symm) q_oW_o2 oW

set_option maxRecDepth 20000 in
set_option maxHeartbeats 1000000 in
theorem law6Within_ok (a : Int) (m : Nat) (W : World) (hm : 0 < m) (hm2 : m ≤ 1000000) :
    CW Try.prog 21 #[(eI a), (eN m)] W (Rt (RIs (eN (a % (m : Int)).toNat) W)) := by
 have oW : Only No W W := Only.refl _ _
 refine enter (al := [(eI a), (eN m)]) (k := 13) (l := ([(eI a), (eN m)] ++ (us 13))) Try.func21 rfl Try.ntmps21 rfl rfl ?_
 refine wpIn_seq ?_
 refine plain ?_
 refine wI (d_assign rfl) ?_
 refine wF ([(eI a), (eN m), undef, undef, (eN 0)] ++ (us 10)) ?_
 refine wpL.done ?_
 refine then_n ?_
 refine wpIn_seq ?_
 refine plain ?_
 refine wI (d_move rfl) ?_
 refine wI (d_move rfl) ?_
 refine wI (d_rem (k := .i64) (m := a) (n := ((m : Nat) : Int)) rfl rfl (by omega) (r := Int.tmod a (m : Int)) rfl) ?_
 refine wF ([(eI a), (eN m), undef, undef, (eN 0), undef, (eI a), (eN m), (eI (Int.tmod a (m : Int)))] ++ (us 6)) ?_
 refine wI (d_assign rfl) ?_
 refine wF ([(eI a), (eN m), undef, undef, (eN 0), (eI (Int.tmod a (m : Int))), (eI a), (eN m), (eI (Int.tmod a (m : Int)))] ++ (us 6)) ?_
 refine wpL.done ?_
 refine then_n ?_
 refine wpIn_seq ?_
 refine wpIn_seq ?_
 refine plain ?_
 refine wI (d_move rfl) ?_
 refine wI (d_lss (k := .i64) (m := Int.tmod a (m : Int)) (n := 0) rfl rfl rfl) ?_
 refine wF [(eI a), (eN m), undef, undef, (eN 0), (eI (Int.tmod a (m : Int))), (eI a), (eN m), (eI (Int.tmod a (m : Int))), (eI (Int.tmod a (m : Int))), (Value.bool (decide (Int.tmod a (m : Int) < 0))), undef, undef, undef, undef] ?_
 refine wpL.done ?_
 refine then_n ?_
 refine cond_if rfl (fun k1 => ?_) (fun k1 => ?_)
 ·
  refine plain ?_
  refine wI (d_move rfl) ?_
  refine wI (d_move rfl) ?_
  refine wI (d_add (k := .i64) (m := Int.tmod a (m : Int)) (n := ((m : Nat) : Int)) rfl rfl (r := (((a % (m : Int)).toNat : Nat) : Int)) (tmm_neg hm hm2 k1)) ?_
  refine wF [(eI a), (eN m), undef, undef, (eN 0), (eI (Int.tmod a (m : Int))), (eI a), (eN m), (eI (Int.tmod a (m : Int))), (eI (Int.tmod a (m : Int))), (Value.bool (decide (Int.tmod a (m : Int) < 0))), (eI (Int.tmod a (m : Int))), (eN m), (eN ((a % (m : Int)).toNat)), undef] ?_
  refine wI (d_assign rfl) ?_
  refine wF [(eI a), (eN m), undef, undef, (eN 0), (eN ((a % (m : Int)).toNat)), (eI a), (eN m), (eI (Int.tmod a (m : Int))), (eI (Int.tmod a (m : Int))), (Value.bool (decide (Int.tmod a (m : Int) < 0))), (eI (Int.tmod a (m : Int))), (eN m), (eN ((a % (m : Int)).toNat)), undef] ?_
  refine wpL.done ?_
  refine then_n ?_
  refine wpIn_seq ?_
  refine plain ?_
  refine wI (d_move rfl) ?_
  refine wI (d_assign rfl) ?_
  refine wF [(eI a), (eN m), undef, undef, (eN ((a % (m : Int)).toNat)), (eN ((a % (m : Int)).toNat)), (eI a), (eN m), (eI (Int.tmod a (m : Int))), (eI (Int.tmod a (m : Int))), (Value.bool (decide (Int.tmod a (m : Int) < 0))), (eI (Int.tmod a (m : Int))), (eN m), (eN ((a % (m : Int)).toNat)), (eN ((a % (m : Int)).toNat))] ?_
  refine wpL.done ?_
  refine then_n ?_
  refine wpIn_ret ?_
  refine leave0 (v := (eN ((a % (m : Int)).toNat))) (res1 Try.results21 rfl) ?_
  exact ⟨rfl, oW⟩
 refine wp_eq (l' := [(eI a), (eN m), undef, undef, (eN 0), (eN ((a % (m : Int)).toNat)), (eI a), (eN m), (eN ((a % (m : Int)).toNat)), (eN ((a % (m : Int)).toNat)), (Value.bool (decide (Int.tmod a (m : Int) < 0))), undef, undef, undef, undef]) (Eq.trans (Eq.trans (show ([(eI a), (eN m), undef, undef, (eN 0), (eI (Int.tmod a (m : Int))), (eI a), (eN m), (eI (Int.tmod a (m : Int))), (eI (Int.tmod a (m : Int))), (Value.bool (decide (Int.tmod a (m : Int) < 0))), undef, undef, undef, undef] : List Value) = [(eI a), (eN m), undef, undef, (eN 0), (eN ((a % (m : Int)).toNat)), (eI a), (eN m), (eI (Int.tmod a (m : Int))), (eI (Int.tmod a (m : Int))), (Value.bool (decide (Int.tmod a (m : Int) < 0))), undef, undef, undef, undef] from reslot [(eI a), (eN m), undef, undef, (eN 0), (eI (Int.tmod a (m : Int))), (eI a), (eN m), (eI (Int.tmod a (m : Int))), (eI (Int.tmod a (m : Int))), (Value.bool (decide (Int.tmod a (m : Int) < 0))), undef, undef, undef, undef] 5 (tmm_pos hm k1)) (show ([(eI a), (eN m), undef, undef, (eN 0), (eN ((a % (m : Int)).toNat)), (eI a), (eN m), (eI (Int.tmod a (m : Int))), (eI (Int.tmod a (m : Int))), (Value.bool (decide (Int.tmod a (m : Int) < 0))), undef, undef, undef, undef] : List Value) = [(eI a), (eN m), undef, undef, (eN 0), (eN ((a % (m : Int)).toNat)), (eI a), (eN m), (eN ((a % (m : Int)).toNat)), (eI (Int.tmod a (m : Int))), (Value.bool (decide (Int.tmod a (m : Int) < 0))), undef, undef, undef, undef] from reslot [(eI a), (eN m), undef, undef, (eN 0), (eN ((a % (m : Int)).toNat)), (eI a), (eN m), (eI (Int.tmod a (m : Int))), (eI (Int.tmod a (m : Int))), (Value.bool (decide (Int.tmod a (m : Int) < 0))), undef, undef, undef, undef] 8 (tmm_pos hm k1))) (show ([(eI a), (eN m), undef, undef, (eN 0), (eN ((a % (m : Int)).toNat)), (eI a), (eN m), (eN ((a % (m : Int)).toNat)), (eI (Int.tmod a (m : Int))), (Value.bool (decide (Int.tmod a (m : Int) < 0))), undef, undef, undef, undef] : List Value) = [(eI a), (eN m), undef, undef, (eN 0), (eN ((a % (m : Int)).toNat)), (eI a), (eN m), (eN ((a % (m : Int)).toNat)), (eN ((a % (m : Int)).toNat)), (Value.bool (decide (Int.tmod a (m : Int) < 0))), undef, undef, undef, undef] from reslot [(eI a), (eN m), undef, undef, (eN 0), (eN ((a % (m : Int)).toNat)), (eI a), (eN m), (eN ((a % (m : Int)).toNat)), (eI (Int.tmod a (m : Int))), (Value.bool (decide (Int.tmod a (m : Int) < 0))), undef, undef, undef, undef] 9 (tmm_pos hm k1))) ?_
 refine wpIn_skip ?_
 refine then_n ?_
 refine wpIn_seq ?_
 refine plain ?_
 refine wI (d_move rfl) ?_
 refine wI (d_assign rfl) ?_
 refine wF [(eI a), (eN m), undef, undef, (eN ((a % (m : Int)).toNat)), (eN ((a % (m : Int)).toNat)), (eI a), (eN m), (eN ((a % (m : Int)).toNat)), (eN ((a % (m : Int)).toNat)), (Value.bool (decide (Int.tmod a (m : Int) < 0))), undef, undef, undef, (eN ((a % (m : Int)).toNat))] ?_
 refine wpL.done ?_
 refine then_n ?_
 refine wpIn_ret ?_
 refine leave0 (v := (eN ((a % (m : Int)).toNat))) (res1 Try.results21 rfl) ?_
 exact ⟨rfl, oW⟩

set_option maxRecDepth 20000 in
set_option maxHeartbeats 1000000 in
theorem law6Known_ok (W : World) :
    CW Try.prog 18 #[] W (Rt (RIs (.bool true) W)) := by
 have oW : Only No W W := Only.refl _ _
 refine enter (al := []) (k := 20) (l := (us 20)) Try.func18 rfl Try.ntmps18 rfl rfl ?_
 refine wpIn_seq ?_
 refine plain ?_
 refine wI (d_assign rfl) ?_
 refine wF ([(Value.bool false)] ++ (us 19)) ?_
 refine wpL.done ?_
 refine then_n ?_
 refine wpIn_seq ?_
 refine plain ?_
 refine wO (d_buildL (cs := [(eB 1)]) Try.underlying28 s_ti5 rfl (nb rfl) (parts_cons (vs := [(eB 1)]) (cells_of (v := (eB 1)) rfl rfl) parts_nil) rfl) ?_
 rintro _ w12 ⟨b11, rfl, g13, a14, o15⟩
 replace a14 : Arr 5 b11 (([1] : List UInt8).map eB) w12 := a14
 have l_b11 : ([1] : List UInt8).length = 1 := rfl
 have g_oW_b11 : W.heap.size ≤ b11 := Nat.le_trans oW.size g13
 replace oW := oW.tail0 o15
 refine wO (d_buildL (cs := [(eB 2)]) Try.underlying28 s_ti5 rfl (nb rfl) (parts_cons (vs := [(eB 2)]) (cells_of (v := (eB 2)) rfl rfl) parts_nil) rfl) ?_
 rintro _ w17 ⟨b16, rfl, g18, a19, o20⟩
 replace a19 : Arr 5 b16 (([2] : List UInt8).map eB) w17 := a19
 have l_b16 : ([2] : List UInt8).length = 1 := rfl
 have n_b11_b16 : b11 ≠ b16 := a14.ne g18
 have g_oW_b16 : W.heap.size ≤ b16 := Nat.le_trans oW.size g18
 replace a14 := a14.step0 o20
 replace oW := oW.tail0 o20
 refine wO (d_call (xl := [.tmp 2, .tmp 3]) (al := [(sli b11 0 1 1), (sli b16 0 1 1)]) Try.func19 (by kernel_rfl) rfl rfl rfl (bitsApart_ok ([1] : List UInt8) ([2] : List UInt8) (sli b11 0 1 1) (sli b16 0 1 1) _ (Ps.no (arr_seq a14 l_b11 (Nat.le_refl _))) (Ps.no (arr_seq a19 l_b16 (Nat.le_refl _))) (by first | omega | (simp; done) | (simp; omega)) (by first | omega | (simp; done) | (simp; omega)))) ?_
 rintro u23 w21 f24
 replace f24 := f24.ps
 obtain ⟨f24, o22⟩ := f24
 replace f24 := f24.less (Y := (Or1 b16 (Or1 b11 (Old W.heap.size)))) (or1_old a19.lt (or1_old a14.lt (old_old oW.size)))
 replace a14 := a14.step0 o22
 replace a19 := a19.step0 o22
 replace oW := oW.tail0 o22
 refine wF ([(Value.bool false), undef, (sli b11 0 1 1), (sli b16 0 1 1), u23] ++ (us 15)) ?_
 refine wI (d_assign rfl) ?_
 refine wF ([(Value.bool false), u23, (sli b11 0 1 1), (sli b16 0 1 1), u23] ++ (us 15)) ?_
 refine wpL.done ?_
 refine then_n ?_
 refine wpIn_seq ?_
 refine plain ?_
 refine wI (d_move rfl) ?_
 refine wI (d_lenS rfl Try.underlying29 rfl f24) ?_
 refine wI (n_eql (a := ((apR ([1] : List UInt8) ([2] : List UInt8)).length)) (b := 2) rfl rfl (decide_eq_true (by decide))) ?_
 refine wF ([(Value.bool false), u23, (sli b11 0 1 1), (sli b16 0 1 1), u23, u23, (eN ((apR ([1] : List UInt8) ([2] : List UInt8)).length)), (Value.bool true)] ++ (us 12)) ?_
 refine wI (d_move rfl) ?_
 refine wpL.onis rfl rfl rfl (nb rfl) rfl (d_move rfl) ?_
 refine wpL.onis rfl rfl rfl (nb rfl) rfl (d_ix (i := 0) (xs := (apR ([1] : List UInt8) ([2] : List UInt8))) Try.underlying29 s_ti3 rfl f24 (show _ = Value.int _ ((0 : Nat) : Int) from rfl) (by decide)) ?_
 refine wF ([(Value.bool false), u23, (sli b11 0 1 1), (sli b16 0 1 1), u23, u23, (eN ((apR ([1] : List UInt8) ([2] : List UInt8)).length)), (Value.bool true), (Value.bool true), u23, (ixp u23 0)] ++ (us 9)) ?_
 refine wpL.onis rfl rfl rfl (nb rfl) rfl (d_ldx (i := 0) (xs := (apR ([1] : List UInt8) ([2] : List UInt8))) (enc := eN) (v := ((apR ([1] : List UInt8) ([2] : List UInt8)).getD 0 0)) ⟨_, Try.underlying3, rfl⟩ rfl f24 (g_at (by decide))) ?_
 refine wpL.onis rfl rfl rfl (nb rfl) rfl (n_eql (a := ((apR ([1] : List UInt8) ([2] : List UInt8)).getD 0 0)) (b := 0) rfl rfl (decide_eq_true (by decide))) ?_
 refine wI (d_pick (b := true) (v := (Value.bool true)) rfl rfl) ?_
 refine wF ([(Value.bool false), u23, (sli b11 0 1 1), (sli b16 0 1 1), u23, u23, (eN ((apR ([1] : List UInt8) ([2] : List UInt8)).length)), (Value.bool true), (Value.bool true), u23, (ixp u23 0), (eN ((apR ([1] : List UInt8) ([2] : List UInt8)).getD 0 0)), (Value.bool true), (Value.bool true)] ++ (us 6)) ?_
 refine wI (d_move rfl) ?_
 refine wpL.onis rfl rfl rfl (nb rfl) rfl (d_move rfl) ?_
 refine wpL.onis rfl rfl rfl (nb rfl) rfl (d_ix (i := 1) (xs := (apR ([1] : List UInt8) ([2] : List UInt8))) Try.underlying29 s_ti3 rfl f24 (show _ = Value.int _ ((1 : Nat) : Int) from rfl) (by decide)) ?_
 refine wF [(Value.bool false), u23, (sli b11 0 1 1), (sli b16 0 1 1), u23, u23, (eN ((apR ([1] : List UInt8) ([2] : List UInt8)).length)), (Value.bool true), (Value.bool true), u23, (ixp u23 0), (eN ((apR ([1] : List UInt8) ([2] : List UInt8)).getD 0 0)), (Value.bool true), (Value.bool true), (Value.bool true), u23, (ixp u23 1), undef, undef, undef] ?_
 refine wpL.onis rfl rfl rfl (nb rfl) rfl (d_ldx (i := 1) (xs := (apR ([1] : List UInt8) ([2] : List UInt8))) (enc := eN) (v := ((apR ([1] : List UInt8) ([2] : List UInt8)).getD 1 0)) ⟨_, Try.underlying3, rfl⟩ rfl f24 (g_at (by decide))) ?_
 refine wpL.onis rfl rfl rfl (nb rfl) rfl (n_eql (a := ((apR ([1] : List UInt8) ([2] : List UInt8)).getD 1 0)) (b := 1) rfl rfl (decide_eq_true (by decide))) ?_
 refine wI (d_pick (b := true) (v := (Value.bool true)) rfl rfl) ?_
 refine wF [(Value.bool false), u23, (sli b11 0 1 1), (sli b16 0 1 1), u23, u23, (eN ((apR ([1] : List UInt8) ([2] : List UInt8)).length)), (Value.bool true), (Value.bool true), u23, (ixp u23 0), (eN ((apR ([1] : List UInt8) ([2] : List UInt8)).getD 0 0)), (Value.bool true), (Value.bool true), (Value.bool true), u23, (ixp u23 1), (eN ((apR ([1] : List UInt8) ([2] : List UInt8)).getD 1 0)), (Value.bool true), (Value.bool true)] ?_
 refine wI (d_assign rfl) ?_
 refine wF [(Value.bool true), u23, (sli b11 0 1 1), (sli b16 0 1 1), u23, u23, (eN ((apR ([1] : List UInt8) ([2] : List UInt8)).length)), (Value.bool true), (Value.bool true), u23, (ixp u23 0), (eN ((apR ([1] : List UInt8) ([2] : List UInt8)).getD 0 0)), (Value.bool true), (Value.bool true), (Value.bool true), u23, (ixp u23 1), (eN ((apR ([1] : List UInt8) ([2] : List UInt8)).getD 1 0)), (Value.bool true), (Value.bool true)] ?_
 refine wpL.done ?_
 refine then_n ?_
 refine forget (fun zf25 => ([(Value.bool true)] ++ (zs zf25 1 19))) (by kernel_rfl) (fun zf25 => ?_)
 refine wpIn_ret ?_
 refine leave0 (v := (Value.bool true)) (res1 Try.results18 rfl) ?_
 exact ⟨rfl, oW⟩

end Go.Proofs.YtnlbekdjepkhcaaF
