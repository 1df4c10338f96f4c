/- Part of the proof of the law RowioBack, for all its inputs. -/
import Derived.Test.YtgalehapmdabeaaKRowioBack4
set_option linter.unusedVariables false
set_option linter.unusedSimpArgs false
set_option maxRecDepth 20000
set_option maxHeartbeats 4000000
namespace Go.Proofs.YtgalehapmdabeaaF
open Go Shelf YtgalehapmdabeaaS Ram
theorem pageParts_ok (la : List UInt8) (n : Nat) (u1 : Value) (W : World) (h1 : Ps No (Seq kB la u1) W) :
    CW Try.prog 39 #[u1, (eN n)] W (Rt (fun u w => ∃ b c, u = .func (.func 62) #[] #[ptr b 0, ptr c 0] ∧ W.heap.size ≤ b ∧ W.heap.size ≤ c ∧ b ≠ c ∧ Arr 22 b [u1] w ∧ Arr 3 c [eN n] w ∧ Only No W w)) := by
 have oW : Only No W W := Only.refl _ _
 refine enter (al := [u1, (eN n)]) (k := 4) (l := [u1, (eN n), undef, undef, undef, undef]) Try.func39 rfl Try.ntmps39 rfl rfl ?_
 refine wQ (pL ?_)
 refine wO (d_box rfl (Seq.cells h1)) ?_
 rintro _ w11 ⟨b, rfl, g12, a13, o14⟩
 have g_oW_b : W.heap.size ≤ b := Nat.le_trans oW.size g12
 replace h1 := h1.new o14 g12
 replace oW := oW.tail0 o14
 refine wO (d_box rfl rfl) ?_
 rintro _ w15 ⟨c, rfl, g16, a17, o18⟩
 have n_b_c : b ≠ c := a13.ne g16
 have g_oW_c : W.heap.size ≤ c := Nat.le_trans oW.size g16
 replace h1 := h1.new o18 g16
 replace a13 := a13.step0 o18
 replace oW := oW.tail0 o18
 refine wI (d_assign rfl) ?_
 refine wD (tN (wQ (pL ?_)))
 refine wI (d_funcL (yl := [.tmp 2, .tmp 3]) (ys := [(ptr b 0), (ptr c 0)]) rfl) ?_
 refine wI (d_assign rfl) ?_
 refine wF [u1, (eN n), (ptr b 0), (ptr c 0), (Value.func (.func 62) #[] #[(ptr b 0), (ptr c 0)]), (Value.func (.func 62) #[] #[(ptr b 0), (ptr c 0)])] ?_
 refine wD (tN ?_)
 refine wpIn_ret ?_
 refine leave0 (v := (Value.func (.func 62) #[] #[(ptr b 0), (ptr c 0)])) (res1 Try.results39 rfl) ?_
 exact ⟨b, c, rfl, g_oW_b, g_oW_c, n_b_c, a13, a17, oW⟩
theorem pageParts1_ok {O X : Nat → Prop} {w0 : World} (n : Nat) (lw : List UInt8) (uw : Value) (b c l : Nat) (J Jx : List Value → World → Prop) (W : World) (hn : 0 < n) (hb : Arr 22 b [uw] W) (hc : Arr 3 c [eN n] W) (n_b_c : b ≠ c) (kb : Kp O w0.heap.size b) (kc : Kp O w0.heap.size c) (hw : Ps (OrN X w0.heap.size) (Seq kB lw uw) W) (hX : ∀ k, O k → X k) (hXb : X b) (hg : lw.length ≤ 1048576) (SJ : ∀ pre W W', J pre W → Only (Or1 b No) W W' → J pre W') (hy : ∀ pre x, pre ++ [x] <+: partsV n lw uw → ∀ W1, J pre W1 → YieldAt Fence.wide 0 Try.prog l #[x] W1 fun e W' => ∃ u, e = .returned u ∧ YR J Jx (Kp O w0.heap.size) (pre ++ [x]) W1 u W') (hJ : J [] W) :
    CW Try.prog 62 #[(Value.func (.yield l) #[] #[]), (ptr b 0), (ptr c 0)] W (Rt (fun _ W' => J (partsV n lw uw) W' ∨ ∃ pre, pre <+: partsV n lw uw ∧ Jx pre W')) := by
 refine enter (al := [(Value.func (.yield l) #[] #[]), (ptr b 0), (ptr c 0)]) (k := 18) (l := ([(Value.func (.yield l) #[] #[]), (ptr b 0), (ptr c 0)] ++ (us 18))) Try.func62 rfl Try.ntmps62 rfl rfl ?_
 refine wB ?_
 refine loop2 (fun (i : (Nat)) => fun (z : Nat → Value) => (([(Value.func (.yield l) #[] #[]), (ptr b 0), (ptr c 0), undef] ++ (zs z 4 17)) : List Value)) (fun (i : (Nat)) => fun (w_ : World) => (i ≤ lw.length / n) ∧ (J ((partsV n lw uw).take i) w_) ∧ Arr 22 b [(pu n lw uw i)] w_ ∧ Arr 3 c [(eN n)] w_ ∧ Ps (OrN X w0.heap.size) (Seq kB lw uw) w_) (fun (i : (Nat)) => lw.length / n - i) 0 rfl ?_ ?_
 ·
  refine ⟨?_, ?_, ?_, ?_, ?_⟩
  ·
   exact Nat.zero_le _
  ·
   exact hJ
  ·
   exact hb
  ·
   exact hc
  ·
   exact hw
 rintro i z w12 ⟨hi, hJ, hb, hc, hw⟩
 (try dsimp only)
 have hp_ := pu_seq hn hw i hi
 refine wQ (wQ ?_)
 by_cases c0_ : n ≤ ((lw.drop (i * n)).length)
 ·
  refine pL ?_
  refine wI (d_load (v := (pu n lw uw i)) ⟨_, Try.underlying22, rfl⟩ rfl hb rfl) ?_
  refine wI (d_lenS rfl Try.underlying22 rfl hp_) ?_
  refine wI (d_load (v := (eN n)) ⟨_, Try.underlying3, rfl⟩ rfl hc rfl) ?_
  refine wI (n_geq (a := ((lw.drop (i * n)).length)) (b := n) rfl rfl (decide_eq_true c0_)) ?_
  refine wI (d_move rfl) ?_
  refine wF ([(Value.func (.yield l) #[] #[]), (ptr b 0), (ptr c 0), undef, (pu n lw uw i), (eN ((lw.drop (i * n)).length)), (eN n), vT, vT] ++ (zs z 9 12)) ?_
  refine wG (d_load (v := (eN n)) ⟨_, Try.underlying3, rfl⟩ rfl hc rfl) ?_
  refine wG (n_gtr (a := n) (b := 0) rfl rfl (decide_eq_true hn)) ?_
  refine wI (d_pick (b := true) (v := vT) rfl rfl) ?_
  refine wD (tN ?_)
  refine cond_t rfl ?_
  refine wK (tN ?_)
  refine forget (fun zf13 => ([(Value.func (.yield l) #[] #[]), (ptr b 0), (ptr c 0), undef] ++ (zs zf13 4 17))) kr (fun zf13 => ?_)
  refine wB (wQ (wQ (pL ?_)))
  refine wI (d_move rfl) ?_
  refine wI (d_load (v := (pu n lw uw i)) ⟨_, Try.underlying22, rfl⟩ rfl hb rfl) ?_
  refine wI (d_load (v := (eN n)) ⟨_, Try.underlying3, rfl⟩ rfl hc rfl) ?_
  have f14 : Ps _ (Seq kB ((lw.drop (i * n)).take n) (subv 1 0 n (pu n lw uw i))) _ := subv_seq (q := kB) (l := 0) (h := n) (ys := ((lw.drop (i * n)).take n)) hp_ oo c0_ (by first | (rw [List.take_length]; done) | (simp; done))
  refine wI (d_subv (q := kB) (xs := (lw.drop (i * n))) (l := 0) (h := n) Try.underlying22 s_ti5 rfl hp_ Bd.none (Bd.some (l := n) (k := .i64) rfl) oo c0_) ?_
  refine wO (d_yield (xl := [.tmp 15]) (al := [(subv 1 0 n (pu n lw uw i))]) rfl rfl (hy _ _ (parts_pre ((parts_more hn).1 c0_)) _ hJ)) ?_
  rintro _ w15 ⟨t, rfl, hT, hF⟩
  refine wF ([(Value.func (.yield l) #[] #[]), (ptr b 0), (ptr c 0), undef] ++ (zs zf13 4 8 ++ [(Value.func (.yield l) #[] #[]), (pu n lw uw i), (eN n), (subv 1 0 n (pu n lw uw i)), (Value.bool t), (zf13 17), (zf13 18), (zf13 19), (zf13 20)])) ?_
  refine wI (d_not rfl rfl) ?_
  refine wD (tN ?_)
  refine cond_b rfl (fun k0_ => ?_) (fun k0_ => ?_)
  ·
   refine wpIn_ret ?_
   refine then_r (inb_r (then_r (inb_r ?_)))
   refine leave0 (v := (Value.tuple #[])) (res0 Try.results62) ?_
   exact .inr ⟨_, parts_pre ((parts_more hn).1 c0_), hF (by simpa using k0_)⟩
  obtain ⟨hJ3, oY⟩ := hT (by simpa using k0_)
  rw [parts_snoc ((parts_more hn).1 c0_)] at hJ3
  replace hb := hb.step oY (fun h => h kb)
  replace hc := hc.step oY (fun h => h kc)
  replace hw := hw.yield hX oY
  replace hp_ := hp_.yield hX oY
  replace f14 := f14.yield hX oY
  refine wK (tN (pL ?_))
  refine wI (d_load (v := (pu n lw uw i)) ⟨_, Try.underlying22, rfl⟩ rfl hb rfl) ?_
  refine wI (d_load (v := (eN n)) ⟨_, Try.underlying3, rfl⟩ rfl hc rfl) ?_
  have f16 : Ps _ (Seq kB ((lw.drop (i * n)).drop n) (subv 1 n ((lw.drop (i * n)).length) (pu n lw uw i))) _ := subv_seq (q := kB) (l := n) (h := ((lw.drop (i * n)).length)) (ys := ((lw.drop (i * n)).drop n)) hp_ c0_ (Nat.le_refl _) (by first | (rw [List.take_length]; done) | (simp; done))
  refine wI (d_subv (q := kB) (xs := (lw.drop (i * n))) (l := n) (h := ((lw.drop (i * n)).length)) Try.underlying22 s_ti5 rfl hp_ (Bd.some (l := n) (k := .i64) rfl) Bd.none c0_ (Nat.le_refl _)) ?_
  refine wO (d_store s_ti22 rfl rfl (Seq.one f16) hb (nb rfl) rfl) ?_
  rintro _ w17 ⟨a18, o19⟩
  replace hw := hw.stepb o19 (.inl hXb)
  replace hp_ := hp_.stepb o19 (.inl hXb)
  replace f14 := f14.stepb o19 (.inl hXb)
  replace f16 := f16.stepb o19 (.inl hXb)
  replace hc := hc.step o19 (fun e => absurd e (Ne.symm n_b_c))
  replace hJ3 := SJ _ _ _ hJ3 (o19.mono fun k _ e => .inl e)
  refine wF ([(Value.func (.yield l) #[] #[]), (ptr b 0), (ptr c 0), undef] ++ (zs zf13 4 8 ++ [(Value.func (.yield l) #[] #[]), (pu n lw uw i), (eN n), (subv 1 0 n (pu n lw uw i)), (Value.bool t), (Value.bool (!t)), (pu n lw uw i), (eN n), (subv 1 n ((lw.drop (i * n)).length) (pu n lw uw i))])) ?_
  refine wD ?_
  refine inb_n (tN ?_)
  refine ⟨_, (i + 1), rfl, rfl, ⟨?_, ?_, ?_, ?_, ?_⟩, ?_⟩
  ·
   exact ((parts_more hn).1 c0_)
  ·
   exact hJ3
  ·
   exact a18
  ·
   exact hc
  ·
   exact hw
  ·
   (try dsimp only)
   all_goals (have h_ := ((parts_more hn).1 c0_); omega)
 refine pL ?_
 refine wI (d_load (v := (pu n lw uw i)) ⟨_, Try.underlying22, rfl⟩ rfl hb rfl) ?_
 refine wI (d_lenS rfl Try.underlying22 rfl hp_) ?_
 refine wI (d_load (v := (eN n)) ⟨_, Try.underlying3, rfl⟩ rfl hc rfl) ?_
 refine wI (n_geq (a := ((lw.drop (i * n)).length)) (b := n) rfl rfl (decide_eq_false c0_)) ?_
 refine wI (d_move rfl) ?_
 refine wF ([(Value.func (.yield l) #[] #[]), (ptr b 0), (ptr c 0), undef, (pu n lw uw i), (eN ((lw.drop (i * n)).length)), (eN n), vF, vF] ++ (zs z 9 12)) ?_
 refine wX ?_
 refine wX ?_
 refine wI (d_pick (b := false) (v := vF) rfl rfl) ?_
 refine wD (tN ?_)
 refine cond_f rfl ?_
 refine wpIn_exit ?_
 refine then_x (then_x (inb_e ?_))
 refine to_ret ?_
 refine leave0 (v := (Value.tuple #[])) (res0 Try.results62) ?_
 exact .inl (by rw [parts_all (fun h => c0_ ((parts_more hn).2 h))] at hJ; exact hJ)
theorem iter_pageParts {O X : Nat → Prop} {w0 : World} (n : Nat) (lw : List UInt8) (uw : Value) (b c : Nat) (hn : 0 < n) (hg : lw.length ≤ 1048576) (hb : Arr 22 b [uw] w0) (hc : Arr 3 c [eN n] w0) (n_b_c : b ≠ c) (nb : ¬ O b) (nc : ¬ O c) (hw : Ps X (Seq kB lw uw) w0) (hX : ∀ k, O k → X k) (hXb : X b) : Iter Try.prog 62 [ptr b 0, ptr c 0].toArray (fun x => [x].toArray) (Or1 b No) (Kp O w0.heap.size) (partsV n lw uw) w0 :=
  iter_of (encs := fun x => [x]) fun l J Jx W hO SJ SJx hy hJ => pageParts1_ok n lw uw b c l J Jx W hn (hb.step hO (fun h => h ⟨hb.lt, nb⟩)) (hc.step hO (fun h => h ⟨hc.lt, nc⟩)) n_b_c ⟨hb.lt, nb⟩ ⟨hc.lt, nc⟩ (hw.kp hX hO) hX hXb hg SJ hy hJ
theorem pageEncode_ok (la : List UInt8) (u1 : Value) (W : World) (h1 : Ps No (Seq kB la u1) W) (g1 : la.length ≤ 1048576) :
    CW Try.prog 16 #[u1] W (Rt (ROw 5 eB (pgE la) W)) := by
 have oW : Only No W W := Only.refl _ _
 refine enter (al := [u1]) (k := 17) (l := ([u1] ++ (us 17))) Try.func16 rfl Try.ntmps16 rfl rfl ?_
 refine wQ (pL ?_)
 refine wI (d_assign rfl) ?_
 refine wD (tN (wQ (wQ (pL ?_))))
 refine wI (d_move rfl) ?_
 refine wI (d_lenS rfl Try.underlying22 rfl h1) ?_
 refine wI (n_neq (a := la.length) (b := 48) rfl rfl rfl) ?_
 refine wD (tN ?_)
 refine cond_un rfl (fun c0 => ?_) (fun c0 => ?_)
 ·
  refine wQ (pL ?_)
  refine wI (d_assign rfl) ?_
  refine wF ([u1, undef, (Value.slice none 0 0), undef, undef, u1, (eN la.length), (Value.bool (!decide (la.length = 48)))] ++ (us 10)) ?_
  refine wD (tN ?_)
  refine wpIn_ret ?_
  refine then_r ?_
  refine leave0 (v := (Value.slice none 0 0)) (res1 Try.results16 rfl) ?_
  exact ROw.nil ((pgE_no c0).symm) oW
 refine wK (tN (wQ ?_))
 refine wp_eq (l' := ([u1, undef, (Value.slice none 0 0), undef, undef, u1, (eN la.length), (Value.bool (!decide (la.length = 48)))] ++ (us 10))) rfl ?_
 refine pL ?_
 refine wO (d_make1 (n := 4) Try.underlying22 s_ti5 rfl rfl oo oo rfl) ?_
 rintro _ w11 ⟨o, rfl, g12, a13, o14⟩
 replace a13 : Arr 5 o ((List.replicate 4 0).map eB) w11 := by rw [List.map_replicate]; exact a13
 have l_o : (List.replicate 4 0 : List UInt8).length = 4 := by simp
 have g_oW_o : W.heap.size ≤ o := Nat.le_trans oW.size g12
 replace h1 := h1.new o14 g12
 replace oW := oW.tail0 o14
 refine wO (d_alloc s_ti22 rfl) ?_
 rintro _ w15 ⟨oc, rfl, g16, a17, o18⟩
 have n_o_oc : o ≠ oc := a13.ne g16
 have g_oW_oc : W.heap.size ≤ oc := Nat.le_trans oW.size g16
 replace h1 := h1.new o18 g16
 replace a13 := a13.step0 o18
 replace oW := oW.tail0 o18
 refine wO (d_store s_ti22 rfl rfl rfl a17 (nb rfl) rfl) ?_
 rintro _ w19 ⟨a20, o21⟩
 replace h1 := h1.stepb o21 in1
 replace a13 := a13.step o21 (fun e => absurd e n_o_oc)
 replace oW := oW.tailb o21 g_oW_oc
 refine wF ([u1, undef, (Value.slice none 0 0), (ptr oc 0), undef, u1, (eN la.length), (Value.bool (!decide (la.length = 48))), (sli o 0 4 4)] ++ (us 9)) ?_
 refine wD ?_
 have a22 := Ow.of_map2 a13 l_o
 have nq_r_oc := nq_b n_o_oc
 have q_oW_r : Fr (some o) none W.heap.size := Fr.new g_oW_o
 replace h1 := h1.less (Y := (Or1 oc (Orq (some o) No))) (xx_or1 (xx_br xx_id))
 refine tN (wQ (wQ (pL ?_)))
 refine wI (d_move rfl) ?_
 refine wO (d_call (xl := [.tmp 9, .const (.int .i64 24)]) (al := [u1, (eN 24)]) Try.func39 kr rfl rfl rfl (pageParts_ok la 24 u1 _ (Ps.no h1))) ?_
 rintro _ w23 ⟨b25, b26, rfl, g27, g28, n31, a29, a30, o24⟩
 have n_oc_b25 : oc ≠ b25 := a20.ne g27
 have nq_r_b25 : ∀ x, (some o) = some x → ¬ x = b25 := fun x hx e => by have := a22.lts x hx; omega
 have g_oW_b25 : W.heap.size ≤ b25 := Nat.le_trans oW.size g27
 replace h1 := Ps.less (Y := Or1 b25 (Or1 oc (Orq (some o) No))) h1 (xx_new g27 xx_id)
 have n_b25_b26 : b25 ≠ b26 := n31
 have n_oc_b26 : oc ≠ b26 := a20.ne g28
 have nq_r_b26 : ∀ x, (some o) = some x → ¬ x = b26 := fun x hx e => by have := a22.lts x hx; omega
 have g_oW_b26 : W.heap.size ≤ b26 := Nat.le_trans oW.size g28
 replace h1 := h1.new o24 g28
 replace a20 := a20.step0 o24
 replace a22 := a22.step0 o24
 replace oW := oW.tail0 o24
 refine wD (tN (wB ?_))
 refine wp_eq (l' := ([u1, undef, (Value.slice none 0 0), (ptr oc 0), undef, u1, (eN la.length), (Value.bool (!decide (la.length = 48))), (sli o 0 4 4), u1, (Value.func (.func 62) #[] #[(ptr b25 0), (ptr b26 0)])] ++ (us 7))) rfl ?_
 have h_lt_oc := a20.lt
 have h_lt_b26 := a30.lt
 have h_lt_b25 := a29.lt
 have h_lts_r := a22.lts
 have tq_oW := oW.size
 have nO_b25 : ¬ (Or1 oc (Orq (some o) No)) b25 := (not_or1 (Ne.symm n_oc_b25) (not_orq (fun x hx e => nq_r_b25 x hx e) not_no))
 have nO_b26 : ¬ (Or1 oc (Orq (some o) No)) b26 := (not_or1 (Ne.symm n_oc_b26) (not_orq (fun x hx e => nq_r_b26 x hx e) not_no))
 obtain ⟨D_, hD_⟩ : ∃ D_, w23.heap.size = D_ := ⟨_, rfl⟩
 obtain ⟨L_, hL_⟩ : ∃ L_, w23.heap.size + 1 = L_ := ⟨_, rfl⟩
 refine range_ (encs := (fun x => [x])) (Pv := (Or1 b25 No)) (O := (Or1 oc (Orq (some o) No))) (xs := (partsV 24 la u1)) (D := D_) (L := L_) (rs := []) hD_ hL_ rfl Try.func62 kr rfl (iter_pageParts 24 la u1 b25 b26 (by decide) fo a29 a30 n_b25_b26 nO_b25 nO_b26 h1 (or1_skip (or1_skip (or1_mono (orq_mono no_any)))) (in2 in1)) (fun k t => by simp only [Or1, No, or_false] at t; subst t; exact ⟨h_lt_b25, nO_b25⟩) (fun _ => rfl) (lt_or1 h_lt_oc (lt_orq h_lts_r lt_no)) (fun (pre : List Value) (w_ : World) => ∃ (bo_r : Option Nat) (u_r : Value), Only (Or1 b25 (Or1 oc (Orq (some o) No))) w23 w_ ∧ Arr 22 oc [u_r] w_ ∧ Arr 3 b26 [(eN 24)] w_ ∧ Dead b25 w_ ∧ Ow 5 1 bo_r u_r (pgTo la pre.length).length ((pgTo la pre.length).map eB) w_ ∧ Fr bo_r (some o) w23.heap.size ∧ (∀ x, bo_r = some x → ¬ x = b25) ∧ (∀ x, bo_r = some x → ¬ x = D_) ∧ (∀ x, bo_r = some x → ¬ x = L_)) (fun _ _ _ => False) ?_ ?_ ?_ ?_ ?_ ?_
 ·
  rintro pre w_ w2_ ⟨bo_r, u_r, o32, a20, a30, a29, a22, qq_r, nq_r_b25, nq_r_D_, nq_r_L_⟩ ho_
  exact ⟨bo_r, u_r, o32.tail ho_ (stab_tl hD_ hL_ (fun k t => by simp only [Or1, No, or_false] at t; subst t; exact in1)), a20.step ho_ (stab_b hD_ hL_ h_lt_oc (not_or1 n_oc_b25 not_no)), a30.step ho_ (stab_b hD_ hL_ h_lt_b26 (not_or1 (Ne.symm n_b25_b26) not_no)), Nat.lt_of_lt_of_le a29 ho_.size, a22.step ho_ (stab_q nq_r_D_ nq_r_L_ (fun b hb => not_or1 (nq_r_b25 b hb) not_no)), qq_r, nq_r_b25, nq_r_D_, nq_r_L_⟩
 ·
  intro _ _ _ _ h _; exact h.elim
 ·
  refine ⟨(some o), (sli o 0 4 4), ?_, ?_, ?_, ?_, ?_, ?_, ?_, ?_, ?_⟩
  ·
   exact Only.refl _ _
  ·
   exact a20
  ·
   exact a30
  ·
   exact a29.lt
  ·
   (try dsimp only)
   all_goals (rw [← pgTo_zero la] at a22; exact a22)
  ·
   exact Fr.same
  ·
   exact nq_r_b25
  ·
   (try dsimp only)
   all_goals (exact fun x hx e => by have := h_lts_r x hx; omega)
  ·
   (try dsimp only)
   all_goals (exact fun x hx e => by have := h_lts_r x hx; omega)
 ·
  intro pre x w1_ hpx_ hI_ hL1_
  obtain ⟨bo_r, u_r, o32, a20, a30, a29, a22, qq_r, nq_r_b25, nq_r_D_, nq_r_L_⟩ := hI_
  replace h1 := Ps.re (X' := (Or1 L_ (Or1 D_ (Or1 b26 (Or1 b25 (Or1 oc (Orq bo_r No))))))) h1 o32 (or1_skip (or1_mono (or1_mono (orq_mono no_any)))) (xx_new oo (xx_new (Nat.le_of_eq hD_) (xx_or1 (xx_or1 (xx_or1 (xx_re qq_r xx_id))))))
  replace oW := oW.tail o32 (tl_new g_oW_b25 (tl_new g_oW_oc (tl_q q_oW_r (fun _ e => by cases e) tl_no)))
  replace q_oW_r := qtr qq_r q_oW_r tq_oW
  replace nq_r_oc := nqs nq_r_oc qq_r h_lt_oc
  replace nq_r_b26 := nqs nq_r_b26 qq_r h_lt_b26
  have q_o32_r : Fr bo_r (some o) w23.heap.size := qq_r
  have n_oc_D_ : oc ≠ D_ := by omega
  have n_b26_D_ : b26 ≠ D_ := by omega
  have n_b25_D_ : b25 ≠ D_ := by omega
  have g_oW_D_ : W.heap.size ≤ D_ := by omega
  have g_o32_D_ : w23.heap.size ≤ D_ := by omega
  have n_oc_L_ : oc ≠ L_ := by omega
  have n_b26_L_ : b26 ≠ L_ := by omega
  have n_b25_L_ : b25 ≠ L_ := by omega
  have g_oW_L_ : W.heap.size ≤ L_ := by omega
  have g_o32_L_ : w23.heap.size ≤ L_ := by omega
  have n_D__L_ : D_ ≠ L_ := by omega
  have aL_ : Dead L_ w1_ := hL1_
  have aD_ : Dead D_ w1_ := by unfold Dead; omega
  refine wp_eq (l' := ([u1, undef, (Value.slice none 0 0), (ptr oc 0), undef, u1, (eN la.length), (Value.bool (!decide (la.length = 48))), (sli o 0 4 4), u1, (Value.func (.func 62) #[] #[(ptr b25 0), (ptr b26 0)]), x] ++ (us 6))) kr ?_
  refine pL ?_
  refine wI (d_assign rfl) ?_
  refine wD (tN ?_)
  refine ⟨Only.refl _ _, fun w2_ oL_ _ => ?_⟩
  replace h1 := h1.stepb oL_ in1
  replace a20 := a20.step oL_ (fun e => absurd e n_oc_L_)
  replace a30 := a30.step oL_ (fun e => absurd e n_b26_L_)
  replace a29 := a29.step oL_ (fun e => absurd e n_b25_L_)
  replace aD_ := aD_.step oL_ (fun e => absurd e n_D__L_)
  replace a22 := a22.step oL_ (fun x hx e => nq_r_L_ x hx e)
  replace oW := oW.tailb oL_ g_oW_L_
  replace o32 := o32.tailb oL_ g_o32_L_
  replace aL_ : Dead L_ w2_ := Nat.lt_of_lt_of_le aL_ oL_.size
  have oR_ : Only (fun k => (Or1 oc (Orq (some o) No)) k ∨ L_ < k) w2_ w2_ := Only.refl _ _
  have nqD0_r := nq_r_D_
  have nqL0_r := nq_r_L_
  have q_oR__r : Fr bo_r bo_r w2_.heap.size := Fr.same
  obtain ⟨hp_, hx_⟩ := parts_in hpx_
  have fx_ := pv_seq (n := 24) (by decide) h1 pre.length hp_
  rw [← hx_] at fx_
  refine wB ?_
  refine wp_eq (l' := ([u1, undef, (Value.slice none 0 0), (ptr oc 0), x, u1, (eN la.length), (Value.bool (!decide (la.length = 48))), (sli o 0 4 4), u1, (Value.func (.func 62) #[] #[(ptr b25 0), (ptr b26 0)]), x] ++ (us 6))) rfl ?_
  refine drawnT (O := (Or1 oc (Orq bo_r No))) (n := 5) 3 [0, 0, 2, 7, 15] [(0, 12), (1, 13), (2, 14), (3, 15)] [(0, 12), (1, 13), (2, 14)] [0, 1, 2] [] (fun i_ => ([RF.is (Or1 oc (Orq bo_r No)) u_r, RF.is (Or1 oc (Orq bo_r No)) x, RF.ps (Or1 oc (Orq bo_r No)) (Or1 L_ (Or1 D_ (Or1 b26 (Or1 b25 (Or1 oc (Orq bo_r (Old W.heap.size))))))) (Seq kB (encR (pgH la pre.length))) (or1_skip (or1_skip (or1_skip (or1_skip (or1_mono (orq_mono no_any))))))] : List (RF (Or1 oc (Orq bo_r No)))).getD i_ (RF.any (Or1 oc (Orq bo_r No)))) (fun _ w_ => Arr 22 oc [u_r] w_ ∧ Arr 3 b26 [(eN 24)] w_ ∧ Dead b25 w_ ∧ Dead D_ w_ ∧ Dead L_ w_ ∧ Ow 5 1 bo_r u_r (pgTo la pre.length).length ((pgTo la pre.length).map eB) w_) (fun v33 => [u1, undef, (Value.slice none 0 0), (ptr oc 0), x, u1, (eN la.length), (Value.bool (!decide (la.length = 48))), (sli o 0 4 4), u1, (Value.func (.func 62) #[] #[(ptr b25 0), (ptr b26 0)]), x, (v33 0), (v33 1), (v33 2), (v33 3), undef, undef]) (fun v33 => [u1, undef, (Value.slice none 0 0), (ptr oc 0), x, u1, (eN la.length), (Value.bool (!decide (la.length = 48))), (sli o 0 4 4), u1, (Value.func (.func 62) #[] #[(ptr b25 0), (ptr b26 0)]), x, (v33 0), (v33 1), (v33 2), undef, undef, undef]) s_mx kr rfl (by decide) (by rfl) kr kr kr (by rfl) (fun v_ => by kernel_rfl) (fun v_ => by kernel_rfl) (fun _ => fun w_ w2_ h ho => by obtain ⟨r_a20, r_a30, r_a29, r_aD_, r_aL_, r_a22⟩ := h; exact ⟨r_a20.step0 ho, r_a30.step0 ho, r_a29.step0 ho, r_aD_.step0 ho, r_aL_.step0 ho, r_a22.step0 ho⟩) ⟨a20, a30, a29, aD_, aL_, a22⟩ ?_ ?_ ?_
  ·
   refine ls_cons ?_ ?_
   ·
    intro v33 lo hi w_ k_ hO hd _ _ hk_ _ hR hold
    obtain ⟨r_a20, r_a30, r_a29, r_aD_, r_aL_, r_a22⟩ := hR
    clear hd hold
    refine ⟨_, rfl, gd rfl ?_⟩
    exact Does.is (d_load (v := u_r) ⟨_, Try.underlying22, rfl⟩ rfl r_a20 rfl)
   refine ls_cons ?_ ?_
   ·
    intro v33 lo hi w_ k_ hO hd _ _ hk_ _ hR hold
    obtain ⟨r_a20, r_a30, r_a29, r_aD_, r_aL_, r_a22⟩ := hR
    clear hd hold
    refine ⟨_, rfl, gd rfl ?_⟩
    exact Does.is (d_move rfl)
   refine ls_cons ?_ ?_
   ·
    intro v33 lo hi w_ k_ hO hd _ _ hk_ _ hR hold
    obtain ⟨r_a20, r_a30, r_a29, r_aD_, r_aL_, r_a22⟩ := hR
    have e1 : v33 1 = x := hd 1 kr
    clear hd hold
    refine ⟨_, rfl, gd rfl ?_⟩
    refine Does.mono (R := ROw 5 eB (encR (pgH la pre.length)) w_) ?_ (fun u w' h => ⟨(h.ps).1.less (or1_old r_aL_.lt (or1_old r_aD_.lt (or1_old r_a30.lt (or1_old r_a29.lt (or1_old r_a20.lt (orq_old r_a22.lts (old_old (Nat.le_trans oW.size hO.size)))))))), (h.ps).2⟩)
    exact d_call (xl := [.tmp 13]) (al := [x]) Try.func40 kr rfl (show ([(v33 1)] : List Value) = [x] from by rw [e1]) rfl (bchEncode_ok (pgH la pre.length) x _ (Ps.no (fx_.step hO (or1_skip (or1_skip (or1_skip (or1_skip (or1_mono (orq_mono no_any)))))))) (by have := pgH_len la pre.length; first | omega | (simp; done) | (simp; omega)))
   exact ls_nil
  ·
   exact ms_nil
  intro v33 lo_ hi_ w34 o35 hd iv_ hR
  have e0 : v33 0 = u_r := hd 0 (by decide)
  have e1 : v33 1 = x := hd 1 (by decide)
  have f_v33_2 : Ps (Or1 L_ (Or1 D_ (Or1 b26 (Or1 b25 (Or1 oc (Orq bo_r (Old W.heap.size))))))) (Seq kB (encR (pgH la pre.length)) (v33 2)) w34 := hd 2 (by decide)
  clear hd iv_ lo_ hi_
  refine wpL.flat [u1, undef, (Value.slice none 0 0), (ptr oc 0), x, u1, (eN la.length), (Value.bool (!decide (la.length = 48))), (sli o 0 4 4), u1, (Value.func (.func 62) #[] #[(ptr b25 0), (ptr b26 0)]), x, u_r, x, (v33 2), undef, undef, undef] (by rw [e0, e1] <;> rfl) ?_
  clear e0 e1
  replace h1 := h1.step o35 (or1_skip (or1_skip (or1_skip (or1_skip (or1_mono (orq_mono no_any))))))
  replace fx_ := fx_.step o35 (or1_skip (or1_skip (or1_skip (or1_skip (or1_mono (orq_mono no_any))))))
  obtain ⟨xr_a20, xr_a30, xr_a29, xr_aD_, xr_aL_, xr_a22⟩ := hR
  replace a20 : Arr 22 oc [u_r] w34 := xr_a20
  replace a30 : Arr 3 b26 [(eN 24)] w34 := xr_a30
  replace a29 : Dead b25 w34 := xr_a29
  replace aD_ : Dead D_ w34 := xr_aD_
  replace aL_ : Dead L_ w34 := xr_aL_
  replace a22 : Ow 5 1 bo_r u_r (pgTo la pre.length).length ((pgTo la pre.length).map eB) w34 := xr_a22
  clear xr_a20 xr_a30 xr_a29 xr_aD_ xr_aL_ xr_a22
  replace oW := oW.tail o35 (tl_new g_oW_oc (tl_q q_oW_r (fun _ e => by cases e) tl_no))
  replace o32 := o32.tail o35 (tl_in (in2 in1) (tl_q q_o32_r (fun k e => (.inr (.inr (.inl e)))) tl_no))
  replace oR_ := oR_.tail o35 (tl_in (Or.inl in1) (tl_q q_oR__r (q_T qq_r (fun k e => (.inr (.inl e))) nqD0_r nqL0_r hD_ hL_) tl_no))
  refine wO (d_append Try.underlying22 Try.underlying22 s_ti5 rfl rfl rfl a22 (SrcV.of_seq f_v33_2 (fun _ => rfl)) (by have := pgTo_len la pre.length; have := encR_len (pgH la pre.length); have : la.length / 24 = 2 := oo; omega) (by have := pgTo_len la pre.length; have := encR_len (pgH la pre.length); have : la.length / 24 = 2 := oo; omega) rfl) ?_
  rintro u36 w37 ⟨bo38, a39, o40, q41⟩
  replace a39 : Ow 5 1 bo38 u36 ((pgTo la pre.length) ++ (encR (pgH la pre.length))).length (((pgTo la pre.length) ++ (encR (pgH la pre.length))).map eB) w37 := by rw [List.length_append, List.map_append]; exact a39
  replace h1 := h1.gr o40 (fun k e => (.inr (.inr (.inr (.inr (.inr (.inl e))))))) (xx_or1 (xx_or1 (xx_or1 (xx_or1 (xx_or1 (xx_re (Fr.of_or q41) xx_id))))))
  replace fx_ := fx_.gr o40 (fun k e => (.inr (.inr (.inr (.inr (.inr (.inl e))))))) (xx_or1 (xx_or1 (xx_or1 (xx_or1 (xx_or1 (xx_re (Fr.of_or q41) xx_id))))))
  replace f_v33_2 := f_v33_2.gr o40 (fun k e => (.inr (.inr (.inr (.inr (.inr (.inl e))))))) (xx_or1 (xx_or1 (xx_or1 (xx_or1 (xx_or1 (xx_re (Fr.of_or q41) xx_id))))))
  have nq2 := nqs nq_r_oc (Fr.of_or q41) a20.lt
  replace a20 := a20.step o40 (fun e => nq_r_oc _ e rfl)
  replace nq_r_oc := nq2
  clear nq2
  have nq2 := nqs nq_r_b26 (Fr.of_or q41) a30.lt
  replace a30 := a30.step o40 (fun e => nq_r_b26 _ e rfl)
  replace nq_r_b26 := nq2
  clear nq2
  have nq2 := nqs nq_r_b25 (Fr.of_or q41) a29.lt
  replace a29 := a29.step o40 (fun e => nq_r_b25 _ e rfl)
  replace nq_r_b25 := nq2
  clear nq2
  have nq2 := nqs nq_r_D_ (Fr.of_or q41) aD_.lt
  replace aD_ := aD_.step o40 (fun e => nq_r_D_ _ e rfl)
  replace nq_r_D_ := nq2
  clear nq2
  have nq2 := nqs nq_r_L_ (Fr.of_or q41) aL_.lt
  replace aL_ := aL_.step o40 (fun e => nq_r_L_ _ e rfl)
  replace nq_r_L_ := nq2
  clear nq2
  have tq := oW.size
  replace oW := oW.tailr o40 q_oW_r (fun _ e => by cases e)
  replace q_oW_r := qtr (Fr.of_or q41) q_oW_r tq
  clear tq
  have tq := o32.size
  replace o32 := o32.tailr o40 q_o32_r (fun k e => (.inr (.inr (.inl e))))
  replace q_o32_r := qtr (Fr.of_or q41) q_o32_r tq
  clear tq
  have tq := oR_.size
  replace oR_ := oR_.tailr o40 q_oR__r (q_T qq_r (fun k e => (.inr (.inl e))) nqD0_r nqL0_r hD_ hL_)
  replace q_oR__r := qtr (Fr.of_or q41) q_oR__r tq
  clear tq
  refine wO (d_store s_ti22 rfl rfl (Ow.one a39) a20 (nb rfl) rfl) ?_
  rintro _ w42 ⟨a43, o44⟩
  replace h1 := h1.stepb o44 (in2 (in2 (in2 (in2 in1))))
  replace fx_ := fx_.stepb o44 (in2 (in2 (in2 (in2 in1))))
  replace f_v33_2 := f_v33_2.stepb o44 (in2 (in2 (in2 (in2 in1))))
  replace a30 := a30.step o44 (fun e => absurd e (Ne.symm n_oc_b26))
  replace a29 := a29.step o44 (fun e => absurd e (Ne.symm n_oc_b25))
  replace aD_ := aD_.step o44 (fun e => absurd e (Ne.symm n_oc_D_))
  replace aL_ := aL_.step o44 (fun e => absurd e (Ne.symm n_oc_L_))
  replace a39 := a39.step o44 (fun x hx e => nq_r_oc x hx e)
  replace oW := oW.tailb o44 g_oW_oc
  replace o32 := o32.tail o44 (fun k _ e => by have : k = oc := e; rw [this]; exact (in2 in1))
  replace oR_ := oR_.tail o44 (fun k _ e => by have : k = oc := e; rw [this]; exact (Or.inl in1))
  refine wF [u1, undef, (Value.slice none 0 0), (ptr oc 0), x, u1, (eN la.length), (Value.bool (!decide (la.length = 48))), (sli o 0 4 4), u1, (Value.func (.func 62) #[] #[(ptr b25 0), (ptr b26 0)]), x, u_r, x, (v33 2), u36, undef, undef] ?_
  refine wD ?_
  refine inb_n ?_
  refine ⟨oR_, bo38, u36, ?_, ?_, ?_, ?_, ?_, ?_, ?_, ?_, ?_⟩
  ·
   exact o32
  ·
   exact a43
  ·
   exact a30
  ·
   exact a29
  ·
   (try dsimp only)
   all_goals (rw [pgTo_snoc] at a39; rw [List.length_append]; exact a39)
  ·
   exact q_o32_r
  ·
   exact nq_r_b25
  ·
   exact nq_r_D_
  ·
   exact nq_r_L_
 ·
  intro w1_ hI_ aD_
  obtain ⟨bo_r, u_r, o32, a20, a30, a29, a22, qq_r, nq_r_b25, nq_r_D_, nq_r_L_⟩ := hI_
  replace h1 := Ps.re (X' := (Or1 D_ (Or1 b26 (Or1 b25 (Or1 oc (Orq bo_r No)))))) h1 o32 (or1_skip (or1_mono (or1_mono (orq_mono no_any)))) (xx_new (Nat.le_of_eq hD_) (xx_or1 (xx_or1 (xx_or1 (xx_re qq_r xx_id)))))
  replace oW := oW.tail o32 (tl_new g_oW_b25 (tl_new g_oW_oc (tl_q q_oW_r (fun _ e => by cases e) tl_no)))
  replace q_oW_r := qtr qq_r q_oW_r tq_oW
  replace nq_r_oc := nqs nq_r_oc qq_r h_lt_oc
  replace nq_r_b26 := nqs nq_r_b26 qq_r h_lt_b26
  have q_o32_r : Fr bo_r (some o) w23.heap.size := qq_r
  have n_oc_D_ : oc ≠ D_ := by omega
  have n_b26_D_ : b26 ≠ D_ := by omega
  have n_b25_D_ : b25 ≠ D_ := by omega
  have g_oW_D_ : W.heap.size ≤ D_ := by omega
  have g_o32_D_ : w23.heap.size ≤ D_ := by omega
  have hl_ := parts_len 24 la u1
  refine inb_n (tN ?_)
  refine wQ (pL ?_)
  refine wI (d_load (v := u_r) ⟨_, Try.underlying22, rfl⟩ rfl a20 rfl) ?_
  refine wO (d_call (xl := [.tmp 16]) (al := [u_r]) Try.func41 kr rfl rfl rfl (cloneB_ok (pgTo la (partsV 24 la u1).length) u_r _ (Ps.no (a22.seq (X := No) (fun _ _ h => h))) (by have := pgTo_len la ((partsV 24 la u1).length); first | omega | (simp; done) | (simp; omega)))) ?_
  rintro u47 w45 f48
  obtain ⟨bo49, f48, g50, o46⟩ := f48
  have nq_r2_oc := nq_new g50 a20.lt
  have nq_r2_b26 := nq_new g50 a30.lt
  have nq_r2_b25 := nq_new g50 a29.lt
  have nq_r2_D_ := nq_new g50 aD_.lt
  have nqq_r_r2 := nqq_new g50 a22.lts
  have q_oW_r2 := qnew g50 oW.size
  have q_o32_r2 := qnew g50 o32.size
  replace h1 := h1.newq o46 g50
  replace a20 := a20.step0 o46
  replace a30 := a30.step0 o46
  replace a29 := a29.step0 o46
  replace aD_ := aD_.step0 o46
  replace a22 := a22.step0 o46
  replace oW := oW.tail0 o46
  replace o32 := o32.tail0 o46
  refine wI (d_assign rfl) ?_
  refine wD (tN ?_)
  refine wpIn_ret ?_
  refine leave (marks_ok aD_) (fun w51 o52 => ⟨res1 Try.results16 rfl, ?_⟩)
  replace o52 := only_mem o52
  replace h1 := h1.stepb o52 (inq in1)
  replace a20 := a20.step o52 (fun e => absurd e n_oc_D_)
  replace a30 := a30.step o52 (fun e => absurd e n_b26_D_)
  replace a29 := a29.step o52 (fun e => absurd e n_b25_D_)
  replace a22 := a22.step o52 (fun x hx e => nq_r_D_ x hx e)
  replace f48 := f48.step o52 (fun x hx e => nq_r2_D_ x hx e)
  replace oW := oW.tailb o52 g_oW_D_
  replace o32 := o32.tailb o52 g_o32_D_
  exact ROw.mk_ f48 (pgTo_done c0 u1) q_oW_r2 oW
 ·
  intro _ _ _ _ h _; exact h.elim
theorem pageDecode_ok (la : List UInt8) (u1 : Value) (W : World) (h1 : Ps No (Seq kB la u1) W) (g1 : la.length ≤ 1048576) :
    CW Try.prog 21 #[u1] W (Rt (RPg (pgD la).1 (pgD la).2 W)) := by
 have oW : Only No W W := Only.refl _ _
 refine enter (al := [u1]) (k := 35) (l := ([u1] ++ (us 35))) Try.func21 rfl Try.ntmps21 rfl rfl ?_
 refine wQ (pL ?_)
 refine wO (d_alloc s_ti32 rfl) ?_
 rintro _ w11 ⟨st, rfl, g12, a13, o14⟩
 have g_oW_st : W.heap.size ≤ st := Nat.le_trans oW.size g12
 replace h1 := h1.new o14 g12
 replace oW := oW.tail0 o14
 refine wD (tN (wQ (wQ (pL ?_))))
 refine wI (d_move rfl) ?_
 refine wI (d_lenS rfl Try.underlying22 rfl h1) ?_
 refine wI (n_neq (a := la.length) (b := 60) rfl rfl rfl) ?_
 refine wD (tN ?_)
 refine cond_un rfl (fun c0 => ?_) (fun c0 => ?_)
 ·
  refine wQ (pL ?_)
  refine wI (d_buildS (pl := [(0, 1), (1, 1)]) (zs := [(eN 0), (Value.slice none 0 0)]) (cs := [(eN 1), (Value.slice none 0 0)]) Try.underlying32 s_ti32 ⟨_, _, _, _, rfl, s_ti3, ⟨_, _, _, _, rfl, s_ti22, rfl⟩⟩ rfl (parts_cons (vs := [(eN 1)]) (cells_of (v := (eN 1)) rfl rfl) parts_nil) rfl) ?_
  refine wF ([u1, undef, (ptr st 0)] ++ (us 5 ++ [u1, (eN la.length), (Value.bool (!decide (la.length = 60))), (Value.agg #[(eN 1), (Value.slice none 0 0)])] ++ (us 24))) ?_
  refine wO (d_storeAg (cs' := [(eN 1), (Value.slice none 0 0)]) s_ti32 rfl rfl rfl (oc_cons rfl (oc_cons rfl oc_nil)) a13 (by decide) rfl) ?_
  rintro _ w15 ⟨a16, o17⟩
  replace h1 := h1.stepb o17 in1
  replace oW := oW.tailb o17 g_oW_st
  refine wD (tN ?_)
  refine wpIn_ret ?_
  refine then_r ?_
  refine leave0 (v := (Value.agg #[(eN 1), (Value.slice none 0 0)])) (resC Try.results21 ⟨_, Try.underlying32, rfl⟩ s_ti32 rfl a16 rfl) ?_
  exact RPg.of (pgD_size c0) seq_nil oW
 refine wK (tN (wQ (wQ (pL ?_))))
 refine wI (d_move rfl) ?_
 refine wF ([u1, undef, (ptr st 0)] ++ (us 5 ++ [u1, (eN la.length), (Value.bool (!decide (la.length = 60))), undef, u1] ++ (us 23))) ?_
 refine wO (d_sliceS (xs := la) (ys := (la.take 4)) (l := 0) (h := 4) Try.underlying22 s_ti5 rfl h1 Bd.none (Bd.some (l := 4) (k := .i64) rfl) oo oo (by simp)) ?_
 rintro u18 _ ⟨f19, rfl⟩
 refine wO (d_call (xl := [.tmp 13]) (al := [u18]) Try.func44 kr rfl rfl rfl (bitsOnesN_ok (la.take 4) u18 _ (Ps.no f19) fo)) ?_
 rintro _ w20 ⟨rfl, o21⟩
 replace h1 := h1.step0 o21
 replace f19 := f19.step0 o21
 replace a13 := a13.step0 o21
 replace oW := oW.tail0 o21
 refine wI (n_gtr (a := (onesN (la.take 4))) (b := 16) rfl rfl rfl) ?_
 refine wD (tN ?_)
 refine cond_if rfl (fun c1 => ?_) (fun c1 => ?_)
 ·
  refine wQ (pL ?_)
  refine wI (d_buildS (pl := [(0, 1), (1, 1)]) (zs := [(eN 0), (Value.slice none 0 0)]) (cs := [(eN 0), (Value.slice none 0 0)]) Try.underlying32 s_ti32 ⟨_, _, _, _, rfl, s_ti3, ⟨_, _, _, _, rfl, s_ti22, rfl⟩⟩ rfl (parts_cons (vs := [(eN 0)]) (cells_of (v := (eN 0)) rfl rfl) parts_nil) rfl) ?_
  refine wO (d_storeAg (cs' := [(eN 0), (Value.slice none 0 0)]) s_ti32 rfl rfl rfl (oc_cons rfl (oc_cons rfl oc_nil)) a13 (by decide) rfl) ?_
  rintro _ w22 ⟨a23, o24⟩
  replace h1 := h1.stepb o24 in1
  replace f19 := f19.stepb o24 in1
  replace oW := oW.tailb o24 g_oW_st
  refine wF ([u1, undef, (ptr st 0)] ++ (us 5 ++ [u1, (eN la.length), (Value.bool (!decide (la.length = 60))), undef, u1, u18, (eN (onesN (la.take 4))), (Value.bool (decide (16 < (onesN (la.take 4))))), (Value.agg #[(eN 0), (Value.slice none 0 0)])] ++ (us 19))) ?_
  refine wD (tN ?_)
  refine forget (fun zf25 => ([(zf25 0), (zf25 1), (ptr st 0)] ++ (zs zf25 3 33))) kr (fun zf25 => ?_)
  refine wpIn_ret ?_
  refine then_r ?_
  refine leave0 (v := (Value.agg #[(eN 0), (Value.slice none 0 0)])) (resC Try.results21 ⟨_, Try.underlying32, rfl⟩ s_ti32 rfl a23 rfl) ?_
  exact RPg.of (pgD_blank c0 c1) seq_nil oW
 refine wK (tN (wQ ?_))
 refine wp_eq (l' := ([u1, undef, (ptr st 0)] ++ (us 5 ++ [u1, (eN la.length), (Value.bool (!decide (la.length = 60))), undef, u1, u18, (eN (onesN (la.take 4))), (Value.bool (decide (16 < (onesN (la.take 4)))))] ++ (us 20)))) rfl ?_
 refine pL ?_
 refine wO (d_alloc s_ti22 rfl) ?_
 rintro _ w26 ⟨oc, rfl, g27, a28, o29⟩
 have n_st_oc : st ≠ oc := a13.ne g27
 have g_oW_oc : W.heap.size ≤ oc := Nat.le_trans oW.size g27
 replace h1 := h1.new o29 g27
 replace f19 := f19.new o29 g27
 replace a13 := a13.step0 o29
 replace oW := oW.tail0 o29
 refine wF ([u1, undef, (ptr st 0), (ptr oc 0), undef, undef, undef, undef, u1, (eN la.length), (Value.bool (!decide (la.length = 60))), undef, u1, u18, (eN (onesN (la.take 4))), (Value.bool (decide (16 < (onesN (la.take 4)))))] ++ (us 20)) ?_
 refine wD ?_
 have a30 : Ow 5 1 none (Value.slice none 0 0) ([] : List (UInt8)).length (([] : List (UInt8)).map eB) w26 := Ow.nil _ _ _
 have nq_r_st : ∀ x, (none : Option Nat) = some x → ¬ x = st := fun x e => by cases e
 have nq_r_oc : ∀ x, (none : Option Nat) = some x → ¬ x = oc := fun x e => by cases e
 have q_oW_r : Fr none none W.heap.size := Fr.none
 replace h1 := h1.qnone
 replace f19 := f19.qnone
 refine tN (wQ (wQ (pL ?_)))
 refine wI (d_move rfl) ?_
 have f31 : Ps _ (Seq kB (la.drop 4) (subv 1 4 la.length u1)) _ := subv_seq (q := kB) (l := 4) (h := la.length) (ys := (la.drop 4)) h1 oo oo (by first | (rw [List.take_length]; done) | (simp; done))
 refine wI (d_subv (q := kB) (xs := la) (l := 4) (h := la.length) Try.underlying22 s_ti5 rfl h1 (Bd.some (l := 4) (k := .i64) rfl) Bd.none oo oo) ?_
 refine wO (d_call (xl := [.tmp 18, .const (.int .i64 28)]) (al := [(subv 1 4 la.length u1), (eN 28)]) Try.func39 kr rfl rfl rfl (pageParts_ok (la.drop 4) 28 (subv 1 4 la.length u1) _ (Ps.no f31))) ?_
 rintro _ w32 ⟨b34, b35, rfl, g36, g37, n40, a38, a39, o33⟩
 have n_st_b34 : st ≠ b34 := a13.ne g36
 have n_oc_b34 : oc ≠ b34 := a28.ne g36
 have nq_r_b34 : ∀ x, none = some x → ¬ x = b34 := fun x hx e => by have := a30.lts x hx; omega
 have g_oW_b34 : W.heap.size ≤ b34 := Nat.le_trans oW.size g36
 replace h1 := Ps.less (Y := Or1 b34 (Orq none (Or1 oc (Or1 st No)))) h1 (xx_new g36 xx_id)
 replace f19 := Ps.less (Y := Or1 b34 (Orq none (Or1 oc (Or1 st No)))) f19 (xx_new g36 xx_id)
 replace f31 := Ps.less (Y := Or1 b34 (Orq none (Or1 oc (Or1 st No)))) f31 (xx_new g36 xx_id)
 have n_b34_b35 : b34 ≠ b35 := n40
 have n_st_b35 : st ≠ b35 := a13.ne g37
 have n_oc_b35 : oc ≠ b35 := a28.ne g37
 have nq_r_b35 : ∀ x, none = some x → ¬ x = b35 := fun x hx e => by have := a30.lts x hx; omega
 have g_oW_b35 : W.heap.size ≤ b35 := Nat.le_trans oW.size g37
 replace h1 := h1.new o33 g37
 replace f19 := f19.new o33 g37
 replace f31 := f31.new o33 g37
 replace a13 := a13.step0 o33
 replace a28 := a28.step0 o33
 replace a30 := a30.step0 o33
 replace oW := oW.tail0 o33
 refine wD (tN ?_)
 refine forget (fun zf41 => ([(zf41 0), (zf41 1), (ptr st 0), (ptr oc 0)] ++ (zs zf41 4 15 ++ [(Value.func (.func 62) #[] #[(ptr b34 0), (ptr b35 0)]), undef] ++ (zs zf41 21 15)))) kr (fun zf41 => ?_)
 refine wB ?_
 have h_lt_st := a13.lt
 have h_lt_oc := a28.lt
 have h_lt_b35 := a39.lt
 have h_lt_b34 := a38.lt
 have h_lts_r := a30.lts
 have tq_oW := oW.size
 have nO_b34 : ¬ (Orq none (Or1 oc (Or1 st No))) b34 := (not_orq (fun x hx e => nq_r_b34 x hx e) (not_or1 (Ne.symm n_oc_b34) (not_or1 (Ne.symm n_st_b34) not_no)))
 have nO_b35 : ¬ (Orq none (Or1 oc (Or1 st No))) b35 := (not_orq (fun x hx e => nq_r_b35 x hx e) (not_or1 (Ne.symm n_oc_b35) (not_or1 (Ne.symm n_st_b35) not_no)))
 obtain ⟨D_, hD_⟩ : ∃ D_, w32.heap.size = D_ := ⟨_, rfl⟩
 obtain ⟨L_, hL_⟩ : ∃ L_, w32.heap.size + 1 = L_ := ⟨_, rfl⟩
 refine range_ (encs := (fun x => [x])) (Pv := (Or1 b34 No)) (O := (Orq none (Or1 oc (Or1 st No)))) (xs := (partsV 28 (la.drop 4) (subv 1 4 la.length u1))) (D := D_) (L := L_) (rs := []) hD_ hL_ rfl Try.func62 kr rfl (iter_pageParts 28 (la.drop 4) (subv 1 4 la.length u1) b34 b35 (by decide) fo a38 a39 n_b34_b35 nO_b34 nO_b35 f31 (or1_skip (or1_skip (orq_mono (or1_mono (or1_mono no_any))))) (in2 in1)) (fun k t => by simp only [Or1, No, or_false] at t; subst t; exact ⟨h_lt_b34, nO_b34⟩) (fun _ => rfl) (lt_orq h_lts_r (lt_or1 h_lt_oc (lt_or1 h_lt_st lt_no))) (fun (pre : List Value) (w_ : World) => ∃ (bo_r : Option Nat) (u_r : Value), (∀ i, i < pre.length → decB (pgW la i) = true) ∧ Only (Or1 b34 (Orq none (Or1 oc (Or1 st No)))) w32 w_ ∧ Arr 32 st [(eN 0), (Value.slice none 0 0)] w_ ∧ Arr 22 oc [u_r] w_ ∧ Arr 3 b35 [(eN 28)] w_ ∧ Dead b34 w_ ∧ Ow 5 1 bo_r u_r (pdTo la pre.length).length ((pdTo la pre.length).map eB) w_ ∧ Fr bo_r none w32.heap.size ∧ (∀ x, bo_r = some x → ¬ x = b34) ∧ (∀ x, bo_r = some x → ¬ x = D_) ∧ (∀ x, bo_r = some x → ¬ x = L_)) (fun c_ (pre : List Value) (w_ : World) => c_ = Code.ret ∧ (∃ (bo_r : Option Nat) (u_r : Value), (decB (pgW la (pre.length - 1)) = false) ∧ (pre.length - 1 < 2) ∧ Only (Or1 b34 (Orq none (Or1 oc (Or1 st No)))) w32 w_ ∧ Arr 32 st [(eN 1), (Value.slice none 0 0)] w_ ∧ Arr 22 oc [u_r] w_ ∧ Arr 3 b35 [(eN 28)] w_ ∧ Dead b34 w_ ∧ Ow 5 1 bo_r u_r (pdTo la (pre.length - 1)).length ((pdTo la (pre.length - 1)).map eB) w_ ∧ Fr bo_r none w32.heap.size ∧ (∀ x, bo_r = some x → ¬ x = b34) ∧ (∀ x, bo_r = some x → ¬ x = D_) ∧ (∀ x, bo_r = some x → ¬ x = L_))) ?_ ?_ ?_ ?_ ?_ ?_
 ·
  rintro pre w_ w2_ ⟨bo_r, u_r, hok, o42, a13, a28, a39, a38, a30, qq_r, nq_r_b34, nq_r_D_, nq_r_L_⟩ ho_
  exact ⟨bo_r, u_r, hok, o42.tail ho_ (stab_tl hD_ hL_ (fun k t => by simp only [Or1, No, or_false] at t; subst t; exact in1)), a13.step ho_ (stab_b hD_ hL_ h_lt_st (not_or1 n_st_b34 not_no)), a28.step ho_ (stab_b hD_ hL_ h_lt_oc (not_or1 n_oc_b34 not_no)), a39.step ho_ (stab_b hD_ hL_ h_lt_b35 (not_or1 (Ne.symm n_b34_b35) not_no)), Nat.lt_of_lt_of_le a38 ho_.size, a30.step ho_ (stab_q nq_r_D_ nq_r_L_ (fun b hb => not_or1 (nq_r_b34 b hb) not_no)), qq_r, nq_r_b34, nq_r_D_, nq_r_L_⟩
 ·
  rintro c_ pre w_ w2_ ⟨hc_, ⟨bo_r, u_r, hbad, hb2, o42, a13, a28, a39, a38, a30, qq_r, nq_r_b34, nq_r_D_, nq_r_L_⟩⟩ ho_
  exact ⟨hc_, ⟨bo_r, u_r, hbad, hb2, o42.tail ho_ (stab_tl hD_ hL_ (fun k t => by simp only [Or1, No, or_false] at t; subst t; exact in1)), a13.step ho_ (stab_b hD_ hL_ h_lt_st (not_or1 n_st_b34 not_no)), a28.step ho_ (stab_b hD_ hL_ h_lt_oc (not_or1 n_oc_b34 not_no)), a39.step ho_ (stab_b hD_ hL_ h_lt_b35 (not_or1 (Ne.symm n_b34_b35) not_no)), Nat.lt_of_lt_of_le a38 ho_.size, a30.step ho_ (stab_q nq_r_D_ nq_r_L_ (fun b hb => not_or1 (nq_r_b34 b hb) not_no)), qq_r, nq_r_b34, nq_r_D_, nq_r_L_⟩⟩
 ·
  refine ⟨none, (Value.slice none 0 0), ?_, ?_, ?_, ?_, ?_, ?_, ?_, ?_, ?_, ?_, ?_⟩
  ·
   exact fun i hi => absurd hi (Nat.not_lt_zero _)
  ·
   exact Only.refl _ _
  ·
   exact a13
  ·
   exact a28
  ·
   exact a39
  ·
   exact a38.lt
  ·
   (try dsimp only)
   all_goals (rw [← pdTo_zero la] at a30; exact a30)
  ·
   exact Fr.same
  ·
   exact nq_r_b34
  ·
   (try dsimp only)
   all_goals (exact fun x hx e => by have := h_lts_r x hx; omega)
  ·
   (try dsimp only)
   all_goals (exact fun x hx e => by have := h_lts_r x hx; omega)
 ·
  intro pre x w1_ hpx_ hI_ hL1_
  obtain ⟨bo_r, u_r, hok, o42, a13, a28, a39, a38, a30, qq_r, nq_r_b34, nq_r_D_, nq_r_L_⟩ := hI_
  replace h1 := Ps.re (X' := (Or1 L_ (Or1 D_ (Or1 b35 (Or1 b34 (Orq bo_r (Or1 oc (Or1 st No)))))))) h1 o42 (or1_skip (or1_mono (orq_mono (or1_mono (or1_mono no_any))))) (xx_new oo (xx_new (Nat.le_of_eq hD_) (xx_or1 (xx_or1 (xx_re qq_r (xx_or1 (xx_or1 xx_id)))))))
  replace f19 := Ps.re (X' := (Or1 L_ (Or1 D_ (Or1 b35 (Or1 b34 (Orq bo_r (Or1 oc (Or1 st No)))))))) f19 o42 (or1_skip (or1_mono (orq_mono (or1_mono (or1_mono no_any))))) (xx_new oo (xx_new (Nat.le_of_eq hD_) (xx_or1 (xx_or1 (xx_re qq_r (xx_or1 (xx_or1 xx_id)))))))
  replace f31 := Ps.re (X' := (Or1 L_ (Or1 D_ (Or1 b35 (Or1 b34 (Orq bo_r (Or1 oc (Or1 st No)))))))) f31 o42 (or1_skip (or1_mono (orq_mono (or1_mono (or1_mono no_any))))) (xx_new oo (xx_new (Nat.le_of_eq hD_) (xx_or1 (xx_or1 (xx_re qq_r (xx_or1 (xx_or1 xx_id)))))))
  replace oW := oW.tail o42 (tl_new g_oW_b34 (tl_q q_oW_r (fun _ e => by cases e) (tl_new g_oW_oc (tl_new g_oW_st tl_no))))
  replace q_oW_r := qtr qq_r q_oW_r tq_oW
  replace nq_r_st := nqs nq_r_st qq_r h_lt_st
  replace nq_r_oc := nqs nq_r_oc qq_r h_lt_oc
  replace nq_r_b35 := nqs nq_r_b35 qq_r h_lt_b35
  have q_o42_r : Fr bo_r none w32.heap.size := qq_r
  have n_st_D_ : st ≠ D_ := by omega
  have n_oc_D_ : oc ≠ D_ := by omega
  have n_b35_D_ : b35 ≠ D_ := by omega
  have n_b34_D_ : b34 ≠ D_ := by omega
  have g_oW_D_ : W.heap.size ≤ D_ := by omega
  have g_o42_D_ : w32.heap.size ≤ D_ := by omega
  have n_st_L_ : st ≠ L_ := by omega
  have n_oc_L_ : oc ≠ L_ := by omega
  have n_b35_L_ : b35 ≠ L_ := by omega
  have n_b34_L_ : b34 ≠ L_ := by omega
  have g_oW_L_ : W.heap.size ≤ L_ := by omega
  have g_o42_L_ : w32.heap.size ≤ L_ := by omega
  have n_D__L_ : D_ ≠ L_ := by omega
  have aL_ : Dead L_ w1_ := hL1_
  have aD_ : Dead D_ w1_ := by unfold Dead; omega
  refine wp_eq (l' := ([(zf41 0), (zf41 1), (ptr st 0), (ptr oc 0)] ++ (zs zf41 4 15 ++ [(Value.func (.func 62) #[] #[(ptr b34 0), (ptr b35 0)]), x] ++ (zs zf41 21 15)))) kr ?_
  refine pL ?_
  refine wI (d_assign rfl) ?_
  refine wD (tN ?_)
  refine ⟨Only.refl _ _, fun w2_ oL_ _ => ?_⟩
  replace h1 := h1.stepb oL_ in1
  replace f19 := f19.stepb oL_ in1
  replace f31 := f31.stepb oL_ in1
  replace a13 := a13.step oL_ (fun e => absurd e n_st_L_)
  replace a28 := a28.step oL_ (fun e => absurd e n_oc_L_)
  replace a39 := a39.step oL_ (fun e => absurd e n_b35_L_)
  replace a38 := a38.step oL_ (fun e => absurd e n_b34_L_)
  replace aD_ := aD_.step oL_ (fun e => absurd e n_D__L_)
  replace a30 := a30.step oL_ (fun x hx e => nq_r_L_ x hx e)
  replace oW := oW.tailb oL_ g_oW_L_
  replace o42 := o42.tailb oL_ g_o42_L_
  replace aL_ : Dead L_ w2_ := Nat.lt_of_lt_of_le aL_ oL_.size
  have oR_ : Only (fun k => (Orq none (Or1 oc (Or1 st No))) k ∨ L_ < k) w2_ w2_ := Only.refl _ _
  have nqD0_r := nq_r_D_
  have nqL0_r := nq_r_L_
  have q_oR__r : Fr bo_r bo_r w2_.heap.size := Fr.same
  obtain ⟨hp_, hx_⟩ := parts_in hpx_
  have fx_ := pv_seq (n := 28) (by decide) f31 pre.length hp_
  rw [← hx_] at fx_
  refine wB (wQ ?_)
  refine wp_eq (l' := ([(zf41 0), (zf41 1), (ptr st 0), (ptr oc 0), x] ++ (zs zf41 5 14 ++ [(Value.func (.func 62) #[] #[(ptr b34 0), (ptr b35 0)]), x] ++ (zs zf41 21 15)))) rfl ?_
  refine pL ?_
  refine wI (d_move rfl) ?_
  refine wO (d_call (xl := [.tmp 22]) (al := [x]) Try.func45 kr rfl rfl rfl (bchDecode_ok (pgW la pre.length) x _ (Ps.no fx_) (by have := pgW_len la pre.length; first | omega | (simp; done) | (simp; omega)))) ?_
  rintro _ w43 ⟨u45, rfl, f46, o44⟩
  replace f46 := f46.less (Y := (Or1 L_ (Or1 D_ (Or1 b35 (Or1 b34 (Orq bo_r (Or1 oc (Or1 st (Old W.heap.size))))))))) (or1_old aL_.lt (or1_old aD_.lt (or1_old a39.lt (or1_old a38.lt (orq_old a30.lts (or1_old a28.lt (or1_old a13.lt (old_old oW.size))))))))
  replace h1 := h1.step0 o44
  replace f19 := f19.step0 o44
  replace f31 := f31.step0 o44
  replace fx_ := fx_.step0 o44
  replace a13 := a13.step0 o44
  replace a28 := a28.step0 o44
  replace a39 := a39.step0 o44
  replace a38 := a38.step0 o44
  replace aD_ := aD_.step0 o44
  replace aL_ := aL_.step0 o44
  replace a30 := a30.step0 o44
  replace oW := oW.tail0 o44
  replace o42 := o42.tail0 o44
  replace oR_ := oR_.tail0 o44
  refine wI (d_move rfl) ?_
  refine wI (d_extract (v := u45) rfl rfl) ?_
  refine wI (d_extract (v := (eN (decN (pgW la pre.length)))) rfl rfl) ?_
  refine wF ([(zf41 0), (zf41 1), (ptr st 0), (ptr oc 0), x] ++ (zs zf41 5 14 ++ [(Value.func (.func 62) #[] #[(ptr b34 0), (ptr b35 0)]), x, (Value.tuple #[u45, (eN (decN (pgW la pre.length))), (Value.bool (decB (pgW la pre.length)))]), x, (Value.tuple #[u45, (eN (decN (pgW la pre.length))), (Value.bool (decB (pgW la pre.length)))]), u45, (eN (decN (pgW la pre.length)))] ++ (zs zf41 26 10))) ?_
  refine wI (d_extract (v := (Value.bool (decB (pgW la pre.length)))) rfl rfl) ?_
  refine wI (d_assign rfl) ?_
  refine wI (d_assign rfl) ?_
  refine wI (d_assign rfl) ?_
  refine wF ([(zf41 0), (zf41 1), (ptr st 0), (ptr oc 0), x, u45, (eN (decN (pgW la pre.length))), (Value.bool (decB (pgW la pre.length)))] ++ (zs zf41 8 11 ++ [(Value.func (.func 62) #[] #[(ptr b34 0), (ptr b35 0)]), x, (Value.tuple #[u45, (eN (decN (pgW la pre.length))), (Value.bool (decB (pgW la pre.length)))]), x, (Value.tuple #[u45, (eN (decN (pgW la pre.length))), (Value.bool (decB (pgW la pre.length)))]), u45, (eN (decN (pgW la pre.length))), (Value.bool (decB (pgW la pre.length)))] ++ (zs zf41 27 9))) ?_
  refine wD (tN ?_)
  refine forget (fun zf51 => ([(zf51 0), (zf51 1), (ptr st 0), (ptr oc 0), (zf51 4), u45, (zf51 6), (Value.bool (decB (pgW la pre.length)))] ++ (zs zf51 8 11 ++ [(Value.func (.func 62) #[] #[(ptr b34 0), (ptr b35 0)]), x] ++ (zs zf51 21 15)))) kr (fun zf51 => ?_)
  refine wQ (wQ (pL ?_))
  refine wI (d_move rfl) ?_
  refine wI (d_not rfl rfl) ?_
  refine wF ([(zf51 0), (zf51 1), (ptr st 0), (ptr oc 0), (zf51 4), u45, (zf51 6), (Value.bool (decB (pgW la pre.length)))] ++ (zs zf51 8 11 ++ [(Value.func (.func 62) #[] #[(ptr b34 0), (ptr b35 0)]), x] ++ (zs zf51 21 6 ++ [(Value.bool (decB (pgW la pre.length))), (Value.bool (!(decB (pgW la pre.length))))] ++ (zs zf51 29 7)))) ?_
  refine wD (tN ?_)
  refine cond_b rfl (fun k0 => ?_) (fun k0 => ?_)
  ·
   refine wQ (pL ?_)
   refine wI (d_buildS (pl := [(0, 1), (1, 1)]) (zs := [(eN 0), (Value.slice none 0 0)]) (cs := [(eN 1), (Value.slice none 0 0)]) Try.underlying32 s_ti32 ⟨_, _, _, _, rfl, s_ti3, ⟨_, _, _, _, rfl, s_ti22, rfl⟩⟩ rfl (parts_cons (vs := [(eN 1)]) (cells_of (v := (eN 1)) rfl rfl) parts_nil) rfl) ?_
   refine wO (d_storeAg (cs' := [(eN 1), (Value.slice none 0 0)]) s_ti32 rfl rfl rfl (oc_cons rfl (oc_cons rfl oc_nil)) a13 (by decide) rfl) ?_
   rintro _ w52 ⟨a53, o54⟩
   replace h1 := h1.stepb o54 (in2 (in2 (in2 (in2 (inq (in2 in1))))))
   replace f19 := f19.stepb o54 (in2 (in2 (in2 (in2 (inq (in2 in1))))))
   replace f31 := f31.stepb o54 (in2 (in2 (in2 (in2 (inq (in2 in1))))))
   replace fx_ := fx_.stepb o54 (in2 (in2 (in2 (in2 (inq (in2 in1))))))
   replace f46 := f46.stepb o54 (in2 (in2 (in2 (in2 (inq (in2 in1))))))
   replace a28 := a28.step o54 (fun e => absurd e (Ne.symm n_st_oc))
   replace a39 := a39.step o54 (fun e => absurd e (Ne.symm n_st_b35))
   replace a38 := a38.step o54 (fun e => absurd e (Ne.symm n_st_b34))
   replace aD_ := aD_.step o54 (fun e => absurd e (Ne.symm n_st_D_))
   replace aL_ := aL_.step o54 (fun e => absurd e (Ne.symm n_st_L_))
   replace a30 := a30.step o54 (fun x hx e => nq_r_st x hx e)
   replace oW := oW.tailb o54 g_oW_st
   replace o42 := o42.tail o54 (fun k _ e => by have : k = st := e; rw [this]; exact (in2 (inq (in2 in1))))
   replace oR_ := oR_.tail o54 (fun k _ e => by have : k = st := e; rw [this]; exact (Or.inl (inq (in2 in1))))
   refine wF ([(zf51 0), (zf51 1), (ptr st 0), (ptr oc 0), (zf51 4), u45, (zf51 6), (Value.bool (decB (pgW la pre.length)))] ++ (zs zf51 8 11 ++ [(Value.func (.func 62) #[] #[(ptr b34 0), (ptr b35 0)]), x] ++ (zs zf51 21 6 ++ [(Value.bool (decB (pgW la pre.length))), (Value.bool (!(decB (pgW la pre.length)))), (Value.agg #[(eN 1), (Value.slice none 0 0)])] ++ (zs zf51 30 6)))) ?_
   refine wD (tN ?_)
   refine forget (fun zf55 => ([(zf55 0), (zf55 1), (ptr st 0)] ++ (zs zf55 3 33))) kr (fun zf55 => ?_)
   refine wpIn_ret ?_
   refine then_r (inb_r ?_)
   refine ⟨oR_, rfl, bo_r, u_r, ?_, ?_, ?_, ?_, ?_, ?_, ?_, ?_, ?_, ?_, ?_, ?_⟩
   ·
    (try dsimp only)
    all_goals (rw [List.length_append, List.length_singleton, Nat.add_sub_cancel]; simpa using k0)
   ·
    (try dsimp only)
    all_goals (have : (la.drop 4).length = 56 := (by rw [List.length_drop, c0]); rw [List.length_append, List.length_singleton, Nat.add_sub_cancel]; omega)
   ·
    exact o42
   ·
    exact a53
   ·
    exact a28
   ·
    exact a39
   ·
    exact a38
   ·
    (try dsimp only)
    all_goals (rw [List.length_append, List.length_singleton, Nat.add_sub_cancel]; exact a30)
   ·
    exact q_o42_r
   ·
    exact nq_r_b34
   ·
    exact nq_r_D_
   ·
    exact nq_r_L_
  refine wK (tN (pL ?_))
  refine wI (d_load (v := u_r) ⟨_, Try.underlying22, rfl⟩ rfl a28 rfl) ?_
  refine wI (d_move rfl) ?_
  refine wO (d_append Try.underlying22 Try.underlying22 s_ti5 rfl rfl rfl a30 (SrcV.of_seq f46 (fun _ => rfl)) (by have := pdTo_len la pre.length; have := decD_len (pgW la pre.length); have : (la.drop 4).length = 56 := (by rw [List.length_drop, c0]); omega) (by have := pdTo_len la pre.length; have := decD_len (pgW la pre.length); have : (la.drop 4).length = 56 := (by rw [List.length_drop, c0]); omega) rfl) ?_
  rintro u56 w57 ⟨bo58, a59, o60, q61⟩
  replace a59 : Ow 5 1 bo58 u56 ((pdTo la pre.length) ++ (decD (pgW la pre.length))).length (((pdTo la pre.length) ++ (decD (pgW la pre.length))).map eB) w57 := by rw [List.length_append, List.map_append]; exact a59
  replace h1 := h1.gr o60 (fun k e => (.inr (.inr (.inr (.inr (.inl e)))))) (xx_or1 (xx_or1 (xx_or1 (xx_or1 (xx_re (Fr.of_or q61) (xx_or1 (xx_or1 xx_id)))))))
  replace f19 := f19.gr o60 (fun k e => (.inr (.inr (.inr (.inr (.inl e)))))) (xx_or1 (xx_or1 (xx_or1 (xx_or1 (xx_re (Fr.of_or q61) (xx_or1 (xx_or1 xx_id)))))))
  replace f31 := f31.gr o60 (fun k e => (.inr (.inr (.inr (.inr (.inl e)))))) (xx_or1 (xx_or1 (xx_or1 (xx_or1 (xx_re (Fr.of_or q61) (xx_or1 (xx_or1 xx_id)))))))
  replace fx_ := fx_.gr o60 (fun k e => (.inr (.inr (.inr (.inr (.inl e)))))) (xx_or1 (xx_or1 (xx_or1 (xx_or1 (xx_re (Fr.of_or q61) (xx_or1 (xx_or1 xx_id)))))))
  replace f46 := f46.gr o60 (fun k e => (.inr (.inr (.inr (.inr (.inl e)))))) (xx_or1 (xx_or1 (xx_or1 (xx_or1 (xx_re (Fr.of_or q61) (xx_or1 (xx_or1 xx_id)))))))
  have nq2 := nqs nq_r_st (Fr.of_or q61) a13.lt
  replace a13 := a13.step o60 (fun e => nq_r_st _ e rfl)
  replace nq_r_st := nq2
  clear nq2
  have nq2 := nqs nq_r_oc (Fr.of_or q61) a28.lt
  replace a28 := a28.step o60 (fun e => nq_r_oc _ e rfl)
  replace nq_r_oc := nq2
  clear nq2
  have nq2 := nqs nq_r_b35 (Fr.of_or q61) a39.lt
  replace a39 := a39.step o60 (fun e => nq_r_b35 _ e rfl)
  replace nq_r_b35 := nq2
  clear nq2
  have nq2 := nqs nq_r_b34 (Fr.of_or q61) a38.lt
  replace a38 := a38.step o60 (fun e => nq_r_b34 _ e rfl)
  replace nq_r_b34 := nq2
  clear nq2
  have nq2 := nqs nq_r_D_ (Fr.of_or q61) aD_.lt
  replace aD_ := aD_.step o60 (fun e => nq_r_D_ _ e rfl)
  replace nq_r_D_ := nq2
  clear nq2
  have nq2 := nqs nq_r_L_ (Fr.of_or q61) aL_.lt
  replace aL_ := aL_.step o60 (fun e => nq_r_L_ _ e rfl)
  replace nq_r_L_ := nq2
  clear nq2
  have tq := oW.size
  replace oW := oW.tailr o60 q_oW_r (fun _ e => by cases e)
  replace q_oW_r := qtr (Fr.of_or q61) q_oW_r tq
  clear tq
  have tq := o42.size
  replace o42 := o42.tailr o60 q_o42_r (fun k e => (.inr (.inl e)))
  replace q_o42_r := qtr (Fr.of_or q61) q_o42_r tq
  clear tq
  have tq := oR_.size
  replace oR_ := oR_.tailr o60 q_oR__r (q_T qq_r (fun k e => (.inl e)) nqD0_r nqL0_r hD_ hL_)
  replace q_oR__r := qtr (Fr.of_or q61) q_oR__r tq
  clear tq
  refine wO (d_store s_ti22 rfl rfl (Ow.one a59) a28 (nb rfl) rfl) ?_
  rintro _ w62 ⟨a63, o64⟩
  replace h1 := h1.stepb o64 (in2 (in2 (in2 (in2 (inq in1)))))
  replace f19 := f19.stepb o64 (in2 (in2 (in2 (in2 (inq in1)))))
  replace f31 := f31.stepb o64 (in2 (in2 (in2 (in2 (inq in1)))))
  replace fx_ := fx_.stepb o64 (in2 (in2 (in2 (in2 (inq in1)))))
  replace f46 := f46.stepb o64 (in2 (in2 (in2 (in2 (inq in1)))))
  replace a13 := a13.step o64 (fun e => absurd e n_st_oc)
  replace a39 := a39.step o64 (fun e => absurd e (Ne.symm n_oc_b35))
  replace a38 := a38.step o64 (fun e => absurd e (Ne.symm n_oc_b34))
  replace aD_ := aD_.step o64 (fun e => absurd e (Ne.symm n_oc_D_))
  replace aL_ := aL_.step o64 (fun e => absurd e (Ne.symm n_oc_L_))
  replace a59 := a59.step o64 (fun x hx e => nq_r_oc x hx e)
  replace oW := oW.tailb o64 g_oW_oc
  replace o42 := o42.tail o64 (fun k _ e => by have : k = oc := e; rw [this]; exact (in2 (inq in1)))
  replace oR_ := oR_.tail o64 (fun k _ e => by have : k = oc := e; rw [this]; exact (Or.inl (inq in1)))
  refine wF ([(zf51 0), (zf51 1), (ptr st 0), (ptr oc 0), (zf51 4), u45, (zf51 6), (Value.bool (decB (pgW la pre.length)))] ++ (zs zf51 8 11 ++ [(Value.func (.func 62) #[] #[(ptr b34 0), (ptr b35 0)]), x] ++ (zs zf51 21 6 ++ [(Value.bool (decB (pgW la pre.length))), (Value.bool (!(decB (pgW la pre.length)))), (zf51 29), u_r, u45, u56, (zf51 33), (zf51 34), (zf51 35)]))) ?_
  refine wD ?_
  refine inb_n ?_
  refine ⟨oR_, bo58, u56, ?_, ?_, ?_, ?_, ?_, ?_, ?_, ?_, ?_, ?_, ?_⟩
  ·
   (try dsimp only)
   all_goals (exact fun i hi => by rw [List.length_append, List.length_singleton] at hi; exact (Nat.lt_succ_iff_lt_or_eq.1 hi).elim (hok i) (fun e => by rw [e]; simpa using k0))
  ·
   exact o42
  ·
   exact a13
  ·
   exact a63
  ·
   exact a39
  ·
   exact a38
  ·
   (try dsimp only)
   all_goals (rw [pdTo_snoc] at a59; rw [List.length_append]; exact a59)
  ·
   exact q_o42_r
  ·
   exact nq_r_b34
  ·
   exact nq_r_D_
  ·
   exact nq_r_L_
 ·
  intro w1_ hI_ aD_
  obtain ⟨bo_r, u_r, hok, o42, a13, a28, a39, a38, a30, qq_r, nq_r_b34, nq_r_D_, nq_r_L_⟩ := hI_
  replace h1 := Ps.re (X' := (Or1 D_ (Or1 b35 (Or1 b34 (Orq bo_r (Or1 oc (Or1 st No))))))) h1 o42 (or1_skip (or1_mono (orq_mono (or1_mono (or1_mono no_any))))) (xx_new (Nat.le_of_eq hD_) (xx_or1 (xx_or1 (xx_re qq_r (xx_or1 (xx_or1 xx_id))))))
  replace f19 := Ps.re (X' := (Or1 D_ (Or1 b35 (Or1 b34 (Orq bo_r (Or1 oc (Or1 st No))))))) f19 o42 (or1_skip (or1_mono (orq_mono (or1_mono (or1_mono no_any))))) (xx_new (Nat.le_of_eq hD_) (xx_or1 (xx_or1 (xx_re qq_r (xx_or1 (xx_or1 xx_id))))))
  replace f31 := Ps.re (X' := (Or1 D_ (Or1 b35 (Or1 b34 (Orq bo_r (Or1 oc (Or1 st No))))))) f31 o42 (or1_skip (or1_mono (orq_mono (or1_mono (or1_mono no_any))))) (xx_new (Nat.le_of_eq hD_) (xx_or1 (xx_or1 (xx_re qq_r (xx_or1 (xx_or1 xx_id))))))
  replace oW := oW.tail o42 (tl_new g_oW_b34 (tl_q q_oW_r (fun _ e => by cases e) (tl_new g_oW_oc (tl_new g_oW_st tl_no))))
  replace q_oW_r := qtr qq_r q_oW_r tq_oW
  replace nq_r_st := nqs nq_r_st qq_r h_lt_st
  replace nq_r_oc := nqs nq_r_oc qq_r h_lt_oc
  replace nq_r_b35 := nqs nq_r_b35 qq_r h_lt_b35
  have q_o42_r : Fr bo_r none w32.heap.size := qq_r
  have n_st_D_ : st ≠ D_ := by omega
  have n_oc_D_ : oc ≠ D_ := by omega
  have n_b35_D_ : b35 ≠ D_ := by omega
  have n_b34_D_ : b34 ≠ D_ := by omega
  have g_oW_D_ : W.heap.size ≤ D_ := by omega
  have g_o42_D_ : w32.heap.size ≤ D_ := by omega
  have hl_ := parts_len 28 (la.drop 4) (subv 1 4 la.length u1); have hl2_ : (la.drop 4).length = 56 := by rw [List.length_drop, c0]
  refine inb_n (tN ?_)
  refine wQ (pL ?_)
  refine wI (d_load (v := u_r) ⟨_, Try.underlying22, rfl⟩ rfl a28 rfl) ?_
  refine wO (d_call (xl := [.tmp 33]) (al := [u_r]) Try.func41 kr rfl rfl rfl (cloneB_ok (pdTo la (partsV 28 (la.drop 4) (subv 1 4 la.length u1)).length) u_r _ (Ps.no (a30.seq (X := No) (fun _ _ h => h))) (by have := pdTo_len la ((partsV 28 (la.drop 4) (subv 1 4 la.length u1)).length); first | omega | (simp; done) | (simp; omega)))) ?_
  rintro u67 w65 f68
  obtain ⟨bo69, f68, g70, o66⟩ := f68
  have nq_r2_st := nq_new g70 a13.lt
  have nq_r2_oc := nq_new g70 a28.lt
  have nq_r2_b35 := nq_new g70 a39.lt
  have nq_r2_b34 := nq_new g70 a38.lt
  have nq_r2_D_ := nq_new g70 aD_.lt
  have nqq_r_r2 := nqq_new g70 a30.lts
  have q_oW_r2 := qnew g70 oW.size
  have q_o42_r2 := qnew g70 o42.size
  replace h1 := h1.newq o66 g70
  replace f19 := f19.newq o66 g70
  replace f31 := f31.newq o66 g70
  replace a13 := a13.step0 o66
  replace a28 := a28.step0 o66
  replace a39 := a39.step0 o66
  replace a38 := a38.step0 o66
  replace aD_ := aD_.step0 o66
  replace a30 := a30.step0 o66
  replace oW := oW.tail0 o66
  replace o42 := o42.tail0 o66
  refine wI (d_buildS (pl := [(0, 1), (1, 1)]) (zs := [(eN 0), (Value.slice none 0 0)]) (cs := [(eN 2), u67]) Try.underlying32 s_ti32 ⟨_, _, _, _, rfl, s_ti3, ⟨_, _, _, _, rfl, s_ti22, rfl⟩⟩ rfl (parts_cons (vs := [(eN 2)]) (cells_of (v := (eN 2)) rfl rfl) (parts_cons (vs := [u67]) (cells_of (v := u67) rfl (Ow.cells f68)) parts_nil)) rfl) ?_
  refine wO (d_storeAg (cs' := [(eN 2), u67]) s_ti32 rfl rfl rfl (oc_cons rfl (oc_cons (Ow.one f68) oc_nil)) a13 (by decide) rfl) ?_
  rintro _ w71 ⟨a72, o73⟩
  replace h1 := h1.stepb o73 (inq (in2 (in2 (in2 (inq (in2 in1))))))
  replace f19 := f19.stepb o73 (inq (in2 (in2 (in2 (inq (in2 in1))))))
  replace f31 := f31.stepb o73 (inq (in2 (in2 (in2 (inq (in2 in1))))))
  replace a28 := a28.step o73 (fun e => absurd e (Ne.symm n_st_oc))
  replace a39 := a39.step o73 (fun e => absurd e (Ne.symm n_st_b35))
  replace a38 := a38.step o73 (fun e => absurd e (Ne.symm n_st_b34))
  replace aD_ := aD_.step o73 (fun e => absurd e (Ne.symm n_st_D_))
  replace a30 := a30.step o73 (fun x hx e => nq_r_st x hx e)
  replace f68 := f68.step o73 (fun x hx e => nq_r2_st x hx e)
  replace oW := oW.tailb o73 g_oW_st
  replace o42 := o42.tail o73 (fun k _ e => by have : k = st := e; rw [this]; exact (in2 (inq (in2 in1))))
  refine wD (tN ?_)
  refine wpIn_ret ?_
  refine leave (v := (Value.agg #[(eN 2), u67])) (marks_ok aD_) (fun w74 o75 => ⟨resC Try.results21 ⟨_, Try.underlying32, rfl⟩ s_ti32 rfl (a72.step (only_mem o75) (fun e => absurd e n_st_D_)) rfl, ?_⟩)
  replace o75 := only_mem o75
  replace h1 := h1.stepb o75 (inq in1)
  replace f19 := f19.stepb o75 (inq in1)
  replace f31 := f31.stepb o75 (inq in1)
  replace a72 := a72.step o75 (fun e => absurd e n_st_D_)
  replace a28 := a28.step o75 (fun e => absurd e n_oc_D_)
  replace a39 := a39.step o75 (fun e => absurd e n_b35_D_)
  replace a38 := a38.step o75 (fun e => absurd e n_b34_D_)
  replace a30 := a30.step o75 (fun x hx e => nq_r_D_ x hx e)
  replace f68 := f68.step o75 (fun x hx e => nq_r2_D_ x hx e)
  replace oW := oW.tailb o75 g_oW_D_
  replace o42 := o42.tailb o75 g_o42_D_
  exact RPg.of (pgD_good2 c0 c1 _ hok) (Ow.seq f68 (old_q q_oW_r2)) oW
 ·
  rintro c_ pre w1_ hpx_ ⟨rfl, ⟨bo_r, u_r, hbad, hb2, o42, a13, a28, a39, a38, a30, qq_r, nq_r_b34, nq_r_D_, nq_r_L_⟩⟩ aD_
  replace h1 := Ps.re (X' := (Or1 D_ (Or1 b35 (Or1 b34 (Orq bo_r (Or1 oc (Or1 st No))))))) h1 o42 (or1_skip (or1_mono (orq_mono (or1_mono (or1_mono no_any))))) (xx_new (Nat.le_of_eq hD_) (xx_or1 (xx_or1 (xx_re qq_r (xx_or1 (xx_or1 xx_id))))))
  replace f19 := Ps.re (X' := (Or1 D_ (Or1 b35 (Or1 b34 (Orq bo_r (Or1 oc (Or1 st No))))))) f19 o42 (or1_skip (or1_mono (orq_mono (or1_mono (or1_mono no_any))))) (xx_new (Nat.le_of_eq hD_) (xx_or1 (xx_or1 (xx_re qq_r (xx_or1 (xx_or1 xx_id))))))
  replace f31 := Ps.re (X' := (Or1 D_ (Or1 b35 (Or1 b34 (Orq bo_r (Or1 oc (Or1 st No))))))) f31 o42 (or1_skip (or1_mono (orq_mono (or1_mono (or1_mono no_any))))) (xx_new (Nat.le_of_eq hD_) (xx_or1 (xx_or1 (xx_re qq_r (xx_or1 (xx_or1 xx_id))))))
  replace oW := oW.tail o42 (tl_new g_oW_b34 (tl_q q_oW_r (fun _ e => by cases e) (tl_new g_oW_oc (tl_new g_oW_st tl_no))))
  replace q_oW_r := qtr qq_r q_oW_r tq_oW
  replace nq_r_st := nqs nq_r_st qq_r h_lt_st
  replace nq_r_oc := nqs nq_r_oc qq_r h_lt_oc
  replace nq_r_b35 := nqs nq_r_b35 qq_r h_lt_b35
  have q_o42_r : Fr bo_r none w32.heap.size := qq_r
  have n_st_D_ : st ≠ D_ := by omega
  have n_oc_D_ : oc ≠ D_ := by omega
  have n_b35_D_ : b35 ≠ D_ := by omega
  have n_b34_D_ : b34 ≠ D_ := by omega
  have g_oW_D_ : W.heap.size ≤ D_ := by omega
  have g_o42_D_ : w32.heap.size ≤ D_ := by omega
  refine wpIn_ret ?_
  refine inb_r (then_r ?_)
  refine leave (v := (Value.agg #[(eN 1), (Value.slice none 0 0)])) (marks_ok aD_) (fun w76 o77 => ⟨resC Try.results21 ⟨_, Try.underlying32, rfl⟩ s_ti32 rfl (a13.step (only_mem o77) (fun e => absurd e n_st_D_)) rfl, ?_⟩)
  replace o77 := only_mem o77
  replace h1 := h1.stepb o77 in1
  replace f19 := f19.stepb o77 in1
  replace f31 := f31.stepb o77 in1
  replace a13 := a13.step o77 (fun e => absurd e n_st_D_)
  replace a28 := a28.step o77 (fun e => absurd e n_oc_D_)
  replace a39 := a39.step o77 (fun e => absurd e n_b35_D_)
  replace a38 := a38.step o77 (fun e => absurd e n_b34_D_)
  replace a30 := a30.step o77 (fun x hx e => nq_r_D_ x hx e)
  replace oW := oW.tailb o77 g_oW_D_
  replace o42 := o42.tailb o77 g_o42_D_
  exact RPg.of (pgD_bad c0 c1 oo hbad) seq_nil oW
theorem ref8DecodeNil_ok (W : World) :
    CW Try.prog 22 #[(Value.slice none 0 0)] W (Rt (RPg 1 [] W)) := by
 have oW : Only No W W := Only.refl _ _
 refine enter (al := [(Value.slice none 0 0)]) (k := 44) (l := ([(Value.slice none 0 0)] ++ (us 44))) Try.func22 rfl Try.ntmps22 rfl rfl ?_
 refine wQ (pL ?_)
 refine wO (d_alloc s_ti32 rfl) ?_
 rintro _ w11 ⟨st, rfl, g12, a13, o14⟩
 have g_oW_st : W.heap.size ≤ st := Nat.le_trans oW.size g12
 replace oW := oW.tail0 o14
 refine wD (tN (wQ (wQ (pL ?_))))
 refine wI (d_move rfl) ?_
 refine wI (d_len rfl Try.underlying22 rfl) ?_
 refine wI (n_neq (a := 0) (b := 60) rfl rfl (by rw [decide_eq_false (by decide)] <;> rfl)) ?_
 refine wD (tN ?_)
 refine cond_t rfl ?_
 refine wQ (pL ?_)
 refine wI (d_buildS (pl := [(0, 1), (1, 1)]) (zs := [(eN 0), (Value.slice none 0 0)]) (cs := [(eN 1), (Value.slice none 0 0)]) Try.underlying32 s_ti32 ⟨_, _, _, _, rfl, s_ti3, ⟨_, _, _, _, rfl, s_ti22, rfl⟩⟩ rfl (parts_cons (vs := [(eN 1)]) (cells_of (v := (eN 1)) rfl rfl) parts_nil) rfl) ?_
 refine wF ([(Value.slice none 0 0), undef, (ptr st 0)] ++ (us 6 ++ [(Value.slice none 0 0), (eN 0), vT, (Value.agg #[(eN 1), (Value.slice none 0 0)])] ++ (us 32))) ?_
 refine wO (d_storeAg (cs' := [(eN 1), (Value.slice none 0 0)]) s_ti32 rfl rfl rfl (oc_cons rfl (oc_cons rfl oc_nil)) a13 (by decide) rfl) ?_
 rintro _ w15 ⟨a16, o17⟩
 replace oW := oW.tailb o17 g_oW_st
 refine wD (tN ?_)
 refine wpIn_ret ?_
 refine then_r ?_
 refine leave0 (v := (Value.agg #[(eN 1), (Value.slice none 0 0)])) (resC Try.results22 ⟨_, Try.underlying32, rfl⟩ s_ti32 rfl a16 rfl) ?_
 exact ⟨_, rfl, seq_nil, oW⟩
end Go.Proofs.YtgalehapmdabeaaF
namespace Go.Proofs.YtgalehapmdabeaaF
open Go Shelf YtgalehapmdabeaaS Ram
section
variable {P : Program} {d : Option Tmp} {tt : TypeId} {s : String} {af : Array Edge} {g : Option (Nat × Bool)} {ρ : Operand → Value} {w : World}
theorem d_funcB {f : Nat} {yl : List Operand} {ys : List Value} (hb : yl.map ρ = ys) : DV P ⟨d, .makeFunc (.func f) yl.toArray #[], tt, s, af, g⟩ ρ w (.func (.func f) ys.toArray #[]) :=
 d_func (by rw [← hb]; simp) (by simp)
theorem d_callB {x : Operand} {f : Nat} {cl : List Value} {xl : List Operand} {ts : Array TypeId} {al al' : List Value} {fn : Func} {R : Value → World → Prop} (hx : ρ x = .func (.func f) cl.toArray #[]) (hf : P.funcs[f]? = some fn) {c : Code} (hn : (fn.name == "runtime.NumGoroutine") = false) (hb : fn.body = some c) (ha : xl.map ρ = al) (ha' : cl ++ al = al')
  (h : CW P f al'.toArray w (Rt R)) : Does P ⟨d, .call ⟨.value x, xl.toArray, ts⟩, tt, s, af, g⟩ ρ w R := by
 refine ⟨by simp, ?_⟩
 have : (execOp ρ ⟨d, .call ⟨.value x, xl.toArray, ts⟩, tt, s, af, g⟩).run P w = .ok (.enter f al'.toArray) w := by
  have he := enters_of hf hn hb al'.toArray w
  have ha2 : xl.toArray.map ρ = al.toArray := by rw [List.map_toArray, ha]
  have ha3 : cl.toArray ++ al.toArray = al'.toArray := by rw [List.append_toArray, ha']
  simp only [execOp, resolve, hx, ha2, Sem.run_bind, Deferred.ofValue, Sem.run_pure, Result.andThen, invoke, Array.append_empty, ha3, he]
 rw [this]
 exact h
end
theorem resS {P : Program} {fn : Func} {l : List Value} {tm : Tmp} {t e : TypeId} {b : Nat} {v : Value} {w : World} (hr : fn.results = #[.cell tm t]) (ht : Sc P t) (hv : nth l tm = ptr b 0) (hA : Arr e b [v] w) : (results fn l.toArray).run P w = .ok v w := by
 have hv' : l.getD tm undef = .pointer (some ⟨b, 0, none⟩) := by rw [← nth_eq]; exact hv
 have hc : w.cell? ⟨b, 0, none⟩ = some v := hA.cell rfl
 have hl' : (loadVar t ⟨b, 0, none⟩).run P w = .ok v w := by simp [loadVar, run_isAgg_sc ht, go_sem, hc]
 unfold results
 rw [hr]
 have hg : l[tm]?.getD undef = .pointer (some ⟨b, 0, none⟩) := by rw [← hv', List.getD_eq_getElem?_getD]
 simp [Sem.run_bind, Sem.run_pure, Result.andThen, hg, asAddr, hl']
def plTo (bl : List Int) (i : Nat) : List (Nat × Int) := (List.range i).map fun j => (j, bl.getD j 0)
def plL (bl : List Int) : List (Nat × Int) := plTo bl bl.length
section
variable {bl : List Int} {i : Nat}
theorem plTo_next (bl : List Int) (i : Nat) : plTo bl i ++ [(i, bl.getD i 0)] = plTo bl (i + 1) := by
 unfold plTo
 rw [List.range_succ, List.map_append]
 rfl
theorem plTo_len (bl : List Int) (i : Nat) : (plTo bl i).length = i := by simp [plTo]
theorem plL_len (bl : List Int) : (plL bl).length = bl.length := plTo_len bl _
theorem plTo_pre (h : i ≤ bl.length) : plTo bl i <+: plL bl := by
 have : List.range i <+: List.range bl.length := ⟨(List.range bl.length).drop i, by conv => rhs; rw [← List.take_append_drop i (List.range bl.length), List.take_range, Nat.min_eq_left h]⟩
 exact this.map _
theorem pl_pre (h : i < bl.length) : plTo bl i ++ [(i, bl.getD i 0)] <+: plL bl := by rw [plTo_next]; exact plTo_pre h
theorem pre_pl {pre : List (Nat × Int)} {x : Nat × Int} (h : pre ++ [x] <+: plL bl) : pre.length < bl.length ∧ x = (pre.length, bl.getD pre.length 0) := by
 obtain ⟨t, ht⟩ := h
 have h1 : (plL bl)[pre.length]? = some x := by rw [← ht]; simp
 unfold plL plTo at h1
 rw [List.getElem?_map] at h1
 by_cases hi : pre.length < bl.length
 ·rw [List.getElem?_range hi] at h1
  injection h1 with h1
  exact ⟨hi, h1.symm⟩
 ·rw [List.getElem?_eq_none (by simpa using hi)] at h1
  cases h1
theorem pl_len {pre : List (Nat × Int)} (h : pre <+: plL bl) : pre.length ≤ bl.length := by have := h.length_le; rwa [plL_len] at this
end
def okN (C : Nat → Nat) : Nat → Nat
 | 0 => 0
 | n + 1 => if okN C n = n ∧ C n = 0 then n + 1 else okN C n
def runS {σ : Type} (T : Nat → σ) (C : Nat → Nat) (n : Nat) : σ := if okN C n = n then T n else T (okN C n + 1)
def runC (C : Nat → Nat) (n : Nat) : Nat := if okN C n = n then 0 else C (okN C n)
theorem okN_all {C : Nat → Nat} : ∀ {n}, (∀ j, j < n → C j = 0) → okN C n = n
 | 0, _ => rfl
 | n + 1, h => by unfold okN; rw [if_pos ⟨okN_all fun j hj => h j (by omega), h n (by omega)⟩]
theorem okN_one {C : Nat → Nat} {k : Nat} (h : ∀ j, j < k → C j = 0) (hk : ¬ C k = 0) : ∀ {n}, k < n → okN C n = k
 | n + 1, hn => by
  unfold okN
  by_cases e : k = n
  ·subst e
   rw [if_neg (fun h2 => hk h2.2)]
   exact okN_all h
  ·rw [okN_one h hk (show k < n by omega), if_neg (fun h2 => e h2.1)]
theorem run_all {σ : Type} {T : Nat → σ} {C : Nat → Nat} {n : Nat} (h : ∀ j, j < n → C j = 0) : T n = runS T C n ∧ 0 = runC C n := by
 unfold runS runC
 rw [okN_all h, if_pos rfl, if_pos rfl]
 exact ⟨rfl, rfl⟩
theorem run_one {σ : Type} {T : Nat → σ} {C : Nat → Nat} {k n : Nat} (h : ∀ j, j < k → C j = 0) (hk : ¬ C k = 0) (hn : k < n) : T (k + 1) = runS T C n ∧ C k = runC C n := by
 unfold runS runC
 rw [okN_one h hk hn, if_neg (by omega), if_neg (by omega)]
 exact ⟨rfl, rfl⟩
noncomputable def rowP (bl : List Int) (p : Int) (pl : Nat → List UInt8) (s : NS) : Nat → NS
 | 0 => s
 | k + 1 => (rowP bl p pl s k).prog (k : Nat) (bl.getD k 0) p (pgE (pl k))
noncomputable def rowPC (bl : List Int) (p : Int) (pl : Nat → List UInt8) (s : NS) (k : Nat) : Nat := (rowP bl p pl s k).progR (k : Nat) (bl.getD k 0) p (pgE (pl k))
def rowE (bl : List Int) (s : NS) : Nat → NS
 | 0 => s
 | k + 1 => (rowE bl s k).erase (k : Nat) (bl.getD k 0)
def rowEC (bl : List Int) (s : NS) (k : Nat) : Nat := (rowE bl s k).eraseR (k : Nat) (bl.getD k 0)
def rowR (bl : List Int) (p : Int) (s : NS) : Nat → NS
 | 0 => s
 | k + 1 => (rowR bl p s k).ask ((rowR bl p s k).readOk (k : Nat) (bl.getD k 0) p)
def rowRC (bl : List Int) (p : Int) (s : NS) (k : Nat) : Nat := (rowR bl p s k).askR ((rowR bl p s k).readOk (k : Nat) (bl.getD k 0) p)
def rowRL (bl : List Int) (p : Int) (s : NS) (k : Nat) : List UInt8 := (rowR bl p s k).readL (k : Nat) (bl.getD k 0) p
def rowDo (g n : Nat) (T : Nat → NS) (C : Nat → Nat) : NS := if n = g then runS T C n else T 0
def rowDoC (g n : Nat) (C : Nat → Nat) : Nat := if n = g then runC C n else 1
section
variable {g n k : Nat} {T : Nat → NS} {C : Nat → Nat}
theorem do_no (h : ¬ n = g) : T 0 = rowDo g n T C ∧ 1 = rowDoC g n C := by unfold rowDo rowDoC; rw [if_neg h, if_neg h]; exact ⟨rfl, rfl⟩
theorem do_all (h : n = g) (hC : ∀ j, j < n → C j = 0) : T n = rowDo g n T C ∧ 0 = rowDoC g n C := by unfold rowDo rowDoC; rw [if_pos h, if_pos h]; exact run_all hC
theorem do_one (h : n = g) (hC : ∀ j, j < k → C j = 0) (hk : ¬ C k = 0) (hn : k < n) : T (k + 1) = rowDo g n T C ∧ C k = rowDoC g n C := by unfold rowDo rowDoC; rw [if_pos h, if_pos h]; exact run_one hC hk hn
end
noncomputable def rowWS (s : NS) (bl : List Int) (p : Int) (pl : Nat → List UInt8) (n : Nat) : NS := if n = bl.length then rowDo s.gD bl.length (rowP bl p pl s) (rowPC bl p pl s) else s
noncomputable def rowWC (s : NS) (bl : List Int) (p : Int) (pl : Nat → List UInt8) (n : Nat) : Nat := if n = bl.length then rowDoC s.gD bl.length (rowPC bl p pl s) else 1
theorem made_pg : (madeCells (Value.agg #[Value.int .i64 0, Value.slice none 0 0]).cells (1 * 2)).toList = [Value.int .i64 0, Value.slice none 0 0] := by
 unfold madeCells
 rw [Array.toList_map, Array.toList_range]
 show List.map _ [0, 1] = _
 rfl
def eG (x : Nat × Value) : List Value := [eN x.1, x.2]
section
variable {e : TypeId} {bo : Option Nat} {u : Value} {w : World} {X : Nat → Prop} {n : Nat} {xs ys : List (Nat × Value)} {cs : List Value}
theorem flatG_len : ∀ xs : List (Nat × Value), (xs.flatMap eG).length = xs.length * 2
 | [] => rfl
 | x :: xs => by rw [List.flatMap_cons, List.length_append, flatG_len xs, List.length_cons]; show 2 + _ = _; omega
theorem flatG_at : ∀ (xs : List (Nat × Value)) (i j : Nat) (x : Nat × Value) (v : Value), xs[i]? = some x → (eG x)[j]? = some v → (xs.flatMap eG)[i * 2 + j]? = some v
 | [], i, j, x, v, h, _ => by simp at h
 | y :: xs, 0, j, x, v, h, hv => by
  have h : y = x := by simpa using h
  subst h
  have := (List.getElem?_eq_some_iff.1 hv).1
  rw [List.flatMap_cons, List.getElem?_append_left (by omega), Nat.zero_mul, Nat.zero_add]
  exact hv
 | y :: xs, i + 1, j, x, v, h, hv => by
  have h : xs[i]? = some x := by simpa using h
  rw [List.flatMap_cons, List.getElem?_append_right (by show 2 ≤ _; omega)]
  rw [show (i + 1) * 2 + j - (eG y).length = i * 2 + j by show _ - 2 = _; omega]
  exact flatG_at xs i j x v h hv
theorem Ow.seqG (h : Ow e 2 bo u n (xs.flatMap eG) w) (hX : ∀ b, bo = some b → ¬ X b) : Ps X (Seq (kA 2 eG) xs u) w := by
 rcases h with ⟨h1, h2, h3, h4⟩ | ⟨b, cap, rest, h1, h2, h3, h4, h5, h6⟩
 ·have := flatG_len xs
  rw [h4] at this
  have : xs = [] := List.eq_nil_of_length_eq_zero (by simp at this; omega)
  subst this; subst h2
  exact Ps.mk0 fun w => ⟨none, 0, rfl, Nat.le_refl _, fun i x h => by simp at h⟩
 ·have hn : xs.length = n := by rw [flatG_len] at h5; omega
  subst h2; subst hn
  refine (h4.ps fun w' h' => ?_).less (fun k _ hk e => hX b h1 (e ▸ hk))
  refine ⟨_, _, rfl, h3, fun i x hi => ⟨_, rfl, rfl, fun j v hj => ?_⟩⟩
  rw [add0]
  show w'.cell? ((⟨b, 0 + i * 2, none⟩ : Addr).add j) = some v
  rw [add0]
  refine h'.cell ?_
  have h7 := flatG_at xs i j x v hi hj
  rw [Nat.zero_add, List.getElem?_append_left (List.getElem?_eq_some_iff.1 h7).1]
  exact h7
theorem ow_appG (h : Ow e 2 bo u (xs.length + n) (xs.flatMap eG ++ cs) w) (hn : ys.length = n) (hc : cs = ys.flatMap eG) : Ow e 2 bo u (xs ++ ys).length ((xs ++ ys).flatMap eG) w := by
 rw [List.length_append, List.flatMap_append, hn, ← hc]; exact h
theorem one_eG {m : Nat} {a : Value} (h : a.oneCell' = true) : ∀ v ∈ [eN m, a], v.oneCell' = true := fun v hv => by
 rcases List.mem_cons.1 hv with h' | hx
 ·rw [h']; rfl
 ·rw [List.mem_singleton.1 hx]; exact h
theorem Ow.srcG (h : Ow e 2 bo u xs.length (xs.flatMap eG) w) (h1 : ∀ x ∈ xs, x.2.oneCell' = true) : SrcV 2 xs.length (xs.flatMap eG) u w := by
 have one : ∀ v ∈ xs.flatMap eG, v.oneCell' = true := fun v hv => by
  obtain ⟨x, hx, hv⟩ := List.mem_flatMap.1 hv
  exact one_eG (h1 x hx) v hv
 rcases h with ⟨h1, h2, h3, h4⟩ | ⟨b, cap, rest, h1, h2, h3, h4, h5, h6⟩
 ·have := flatG_len xs
  rw [h4] at this
  have : xs = [] := List.eq_nil_of_length_eq_zero (by simp at this; omega)
  subst this; subst h2
  exact ⟨none, 0, rfl, rfl, fun j v h => by simp at h, fun v hv => by simp at hv⟩
 ·subst h2
  refine ⟨_, _, rfl, flatG_len xs, fun j v hj => ⟨_, rfl, ?_⟩, one⟩
  rw [add0]
  refine h4.cell ?_
  rw [Nat.zero_add, List.getElem?_append_left (List.getElem?_eq_some_iff.1 hj).1]
  exact hj
end
def pgRow (st : Nat → Nat) (vs : List Value) : List (Nat × Value) := (List.range vs.length).map fun i => (st i, vs.getD i undef)
theorem pgRow_len (st : Nat → Nat) (vs : List Value) : (pgRow st vs).length = vs.length := by simp [pgRow]
theorem pgRow_snoc {st : Nat → Nat} {vs : List Value} {v : Value} {k : Nat} (hk : vs.length = k) : pgRow st vs ++ [(st k, v)] = pgRow st (vs ++ [v]) := by
 subst hk
 unfold pgRow
 rw [List.length_append, List.length_singleton, List.range_succ, List.map_append]
 congr 1
 ·refine List.map_congr_left fun i hi => ?_
  rw [List.getD_eq_getElem?_getD, List.getD_eq_getElem?_getD, List.getElem?_append_left (List.mem_range.1 hi)]
 ·show [(st vs.length, v)] = [(st vs.length, (vs ++ [v]).getD vs.length undef)]
  rw [List.getD_eq_getElem?_getD, List.getElem?_append_right (Nat.le_refl _), Nat.sub_self]
  rfl
theorem pgRow_at {st : Nat → Nat} {vs : List Value} {i : Nat} (h : i < vs.length) : (pgRow st vs).getD i (0, undef) = (st i, vs.getD i undef) := by
 unfold pgRow
 rw [List.getD_eq_getElem?_getD, List.getElem?_map, List.getElem?_range h]
 rfl
theorem pgRow_one {α : Type} {q : Kd α} {st : Nat → Nat} {vs : List Value} {n : Nat} {f : Nat → List α} {X : Nat → Prop} {w : World} (h : Ps X (Fam q n f vs) w) (hn : vs.length = n) : ∀ x ∈ pgRow st vs, x.2.oneCell' = true := fun x hx => by
 unfold pgRow at hx
 obtain ⟨i, hi, rfl⟩ := List.mem_map.1 hx
 exact Seq.one (fam_at h (by rw [← hn]; exact List.mem_range.1 hi))
theorem readL_le {s : NS} (ok : s.Ok) (d b p : Int) : (s.readL d b p).length ≤ 60 := by
 unfold NS.readL
 split
 ·rw [flipI_length]; exact Nat.le_of_eq (ok.dl _)
 ·exact Nat.zero_le _
section
variable {X X' : Nat → Prop} {q bo : Option Nat} {b m n : Nat} {L : NL}
theorem yz_or1 (hb : b < n) (h : ∀ k, k < m → X k → Orq q (Old n) k) : ∀ k, k < m → Or1 b X k → Orq q (Old n) k := fun k hk t => t.elim (fun e => .inr (by rw [e]; exact hb)) (h k hk)
theorem yz_ors (hb : ∀ k, L.S k → k < n) (h : ∀ k, k < m → X k → Orq q (Old n) k) : ∀ k, k < m → Ors L.S X k → Orq q (Old n) k := fun k hk t => t.elim (fun e => .inr (hb k e)) (h k hk)
theorem yz_q (h : ∀ k, k < m → X k → Orq q (Old n) k) : ∀ k, k < m → Orq q X k → Orq q (Old n) k := fun k hk t => t.elim .inl (h k hk)
theorem yy_id : ∀ k, k < m → X k → Orq q X k := fun _ _ t => .inr t
theorem yy_or1 (h : ∀ k, k < m → X' k → Orq q X k) : ∀ k, k < m → Or1 b X' k → Orq q (Or1 b X) k := fun k hk t => t.elim (fun e => .inr (.inl e)) (fun t => (h k hk t).imp id .inr)
theorem yy_q (h : ∀ k, k < m → X' k → Orq q X k) : ∀ k, k < m → Orq q X' k → Orq q (Orq bo X) k := fun k hk t => t.elim .inl (fun t => (h k hk t).imp id .inr)
end
end Go.Proofs.YtgalehapmdabeaaF
namespace Ram
open Go.Proofs.YtgalehapmdabeaaF (shlB shrB)
theorem encR_code {d : List UInt8} (h : d.length = 24) : IsCode (encR d) := by rw [encR_yes h]; exact enc_code h
theorem encR_length {d : List UInt8} (h : d.length = 24) : (encR d).length = 28 := (encR_code h).len
theorem encR_drop {d : List UInt8} (h : d.length = 24) : (encR d).drop 4 = d := by rw [encR_yes h]; exact enc_drop h
def xorL (a b : List UInt8) : List UInt8 := tab 24 (fun k => a.getD k 0 ^^^ b.getD k 0)
def xorTo (a b : List UInt8) (i : Nat) : List UInt8 := tab 24 (fun k => if k < i then a.getD k 0 ^^^ b.getD k 0 else 0)
def genQ : List UInt8 := [1, 0, 1, 1, 0, 1, 1, 0, 0, 1, 1, 0, 1, 1, 1, 1, 1, 1, 1, 1, 1, 1, 0, 0, 1, 0, 0, 1, 1, 1, 1, 1, 1, 0, 0, 0, 0, 1, 0, 1, 1, 1, 1, 0, 0, 0, 1, 1, 1, 1, 0, 1, 1, 0, 0, 1, 1, 0, 1, 0, 1, 0, 0, 0, 1, 1, 0, 1, 1, 0, 0, 1, 0, 1, 0, 1, 1, 0, 1, 1, 0, 0, 0, 1, 0, 1, 1, 0, 0, 1, 1, 0, 0, 0, 1, 1, 1, 0, 1, 0, 1, 1, 1, 0, 1, 0, 0, 0, 0, 1, 1, 1, 1, 0, 1, 1, 1, 0, 1, 0, 1, 1, 1, 1, 1, 1, 0, 1, 1, 0, 0, 0, 0, 1, 1, 1, 1, 0, 0, 0, 0, 1, 1, 0, 0, 1, 1, 1, 1, 0, 1, 0, 0, 1, 0, 0, 1, 0, 0, 1, 0, 1, 0, 1, 0, 1, 0, 0, 1, 0, 0, 0, 1, 1, 1, 1, 1, 0, 0, 0, 1, 1, 0, 0, 1, 1, 1, 1, 1, 0, 0, 1, 1, 1, 0, 0, 0, 0, 1, 0, 1, 0, 1, 0, 1, 0, 0, 1, 0, 1, 1, 1, 1, 0, 0, 0, 0, 1, 0, 1, 0, 0, 1, 1]
def synL (L : List Nat) : List UInt8 := tab 8 (fun i => syn L (i + 1))
def btTo (w : List UInt8) (i : Nat) : List UInt8 := tab 224 (fun k => if k < i then (if bt w k then 1 else 0) else 0)
end Ram
namespace Go.Proofs.YtgalehapmdabeaaF
open Go Shelf YtgalehapmdabeaaS Ram
theorem bt_take (w : List UInt8) (n k : Nat) : bt (w.take n) k = (decide (k < 8 * n) && bt w k) := by
 by_cases h : k < 8 * n
 ·rw [decide_eq_true h, Bool.true_and]
  unfold bt
  have h2 : k / 8 < n := by omega
  rw [List.getD_eq_getElem?_getD, List.getD_eq_getElem?_getD, List.getElem?_take_of_lt h2]
 ·rw [decide_eq_false h, Bool.false_and]
  exact bt_out (by rw [List.length_take]; omega)
def partP (a n : Nat) (P : List Nat) : List Nat := (P.filter fun k => decide (8 * a ≤ k ∧ k < 8 * (a + n))).map (· - 8 * a)
theorem partP_mem {a n : Nat} {P : List Nat} {k : Nat} : k ∈ partP a n P ↔ k < 8 * n ∧ k + 8 * a ∈ P := by
 unfold partP
 rw [List.mem_map]
 constructor
 ·rintro ⟨x, hx, rfl⟩
  obtain ⟨h1, h2⟩ := List.mem_filter.1 hx
  have h3 := of_decide_eq_true h2
  refine ⟨by omega, ?_⟩
  rw [Nat.sub_add_cancel h3.1]; exact h1
 ·rintro ⟨h1, h2⟩
  exact ⟨k + 8 * a, List.mem_filter.2 ⟨h2, decide_eq_true (by omega)⟩, by omega⟩
theorem partP_nodup {a n : Nat} {P : List Nat} (h : P.Nodup) : (partP a n P).Nodup := by
 unfold partP
 rw [List.Nodup, List.pairwise_map]
 refine (List.Pairwise.filter _ h).imp_of_mem ?_
 intro x y hx hy hxy
 have h1 := of_decide_eq_true (List.mem_filter.1 hx).2
 have h2 := of_decide_eq_true (List.mem_filter.1 hy).2
 omega
theorem partP_lt {a n : Nat} {P : List Nat} : ∀ k ∈ partP a n P, k < 8 * n := fun k hk => (partP_mem.1 hk).1
theorem flip_part {w : List UInt8} {P : List Nat} (hn : P.Nodup) (hl : ∀ k ∈ P, k < 8 * w.length) {a n : Nat} (h : a + n ≤ w.length) : ((flipL w P).drop a).take n = flipL ((w.drop a).take n) (partP a n P) := by
 have hlen : ((w.drop a).take n).length = n := by rw [List.length_take, List.length_drop]; omega
 refine bt_ext (by rw [flipL_length, hlen, List.length_take, List.length_drop, flipL_length]; omega) fun k hk => ?_
 rw [List.length_take, List.length_drop, flipL_length] at hk
 rw [bt_flipL (partP_nodup hn) (fun k hk => by rw [hlen]; exact partP_lt k hk), bt_take, bt_drop, bt_flipL hn hl, bt_take, bt_drop]
 have hk8 : k < 8 * n := by omega
 rw [decide_eq_true hk8, Bool.true_and, Bool.true_and]
 congr 1
 rw [decide_eq_decide, partP_mem]
 rw [Nat.add_comm k]
 exact ⟨fun h => ⟨hk8, h⟩, fun h => h.2⟩
theorem partP_app (a n : Nat) (P Q : List Nat) : partP a n (P ++ Q) = partP a n P ++ partP a n Q := by unfold partP; rw [List.filter_append, List.map_append]
theorem partP_none {a n : Nat} {P : List Nat} (h : ∀ k ∈ P, ¬ (8 * a ≤ k ∧ k < 8 * (a + n))) : partP a n P = [] := by
 unfold partP
 rw [List.filter_eq_nil_iff.2 fun k hk => by simpa using fun h1 => Nat.le_of_not_lt fun h2 => h k hk ⟨h1, h2⟩]
 rfl
theorem partP_all {a n : Nat} {P : List Nat} (h : ∀ k ∈ P, k < 8 * n) : partP a n (P.map (8 * a + ·)) = P := by
 unfold partP
 rw [List.filter_eq_self.2 fun k hk => by
  obtain ⟨x, hx, rfl⟩ := List.mem_map.1 hk
  have := h x hx
  exact decide_eq_true (by omega)]
 rw [List.map_map]
 conv => rhs; rw [← List.map_id P]
 exact List.map_congr_left fun x _ => by simp
theorem onesN_flip0 {n : Nat} {L : List Nat} (hn : L.Nodup) (hl : ∀ k ∈ L, k < 8 * n) : onesN (flipL (List.replicate n 0) L) = L.length := by
 unfold onesN onesP onesTo
 rw [flipL_length, List.length_replicate]
 have hm : ∀ k, k ∈ (List.range (8 * n)).filter (bt (flipL (List.replicate n 0) L)) ↔ k ∈ L := fun k => by
  rw [List.mem_filter, List.mem_range, bt_flipL hn (by rw [List.length_replicate]; exact hl), bt_rep0]
  constructor
  ·rintro ⟨_, h2⟩; simpa using h2
  ·intro h; exact ⟨hl k h, by simpa using h⟩
 refine Nat.le_antisymm (nodup_len (List.Pairwise.filter _ List.nodup_range) fun k hk => (hm k).1 hk) (nodup_len hn fun k hk => (hm k).2 hk)
theorem map_nodup {f : Nat → Nat} {L : List Nat} (hf : ∀ x y, f x = f y → x = y) (h : L.Nodup) : (L.map f).Nodup := by rw [List.Nodup, List.pairwise_map]; exact h.imp fun hne e => hne (hf _ _ e)
theorem dec_yes {d : List UInt8} (hd : d.length = 24) {L : List Nat} (hn : L.Nodup) (hl : ∀ k ∈ L, k < 224) (h3 : L.length ≤ 3) : decD (flipL (encR d) L) = d ∧ decB (flipL (encR d) L) = true := by
 have hc := encR_code hd
 have hN := decL_of (dec_mends hc hn hl h3)
 have := dec_some (by rw [flipL_length, hc.len]) hN
 rw [flip_twice hc.len hn hl, encR_drop hd] at this
 exact ⟨this.1, this.2.2⟩
theorem dec_not {d : List UInt8} (hd : d.length = 24) {L : List Nat} (hn : L.Nodup) (hl : ∀ k ∈ L, k < 224) (h3 : 3 < L.length) (h5 : L.length ≤ 5) : decB (flipL (encR d) L) = false := by
 have hc := encR_code hd
 exact (dec_none (by rw [flipL_length, hc.len]) (decL_no (dec_fails hc hn hl h3 h5))).2.2
section
variable {d c m : List UInt8} {P : List Nat}
theorem pgH_length (hd : d.length = 48) {i : Nat} (hi : i < 2) : (pgH d i).length = 24 := by
 unfold pgH; rw [List.length_take, List.length_drop, hd]
 rcases (show i = 0 ∨ i = 1 by omega) with rfl | rfl <;> rfl
theorem pgE_length (hd : d.length = 48) : (pgE d).length = 60 := by
 rw [pgE_yes hd, List.length_append, List.length_append, List.length_replicate, encR_length (pgH_length hd (by decide)), encR_length (pgH_length hd (by decide))]
theorem pgE_mark (hd : d.length = 48) : (pgE d).take 4 = List.replicate 4 0 := by
 rw [pgE_yes hd, List.append_assoc, List.take_left' (by simp)]
theorem pgE_drop (hd : d.length = 48) : (pgE d).drop 4 = encR (pgH d 0) ++ encR (pgH d 1) := by
 rw [pgE_yes hd, List.append_assoc, List.drop_left' (by simp)]
theorem pgW_of (w : List UInt8) (i : Nat) : pgW w i = ((w.drop 4).drop (i * 28)).take 28 := rfl
theorem pgW_enc (hd : d.length = 48) {w : List UInt8} (hw : w.drop 4 = (pgE d).drop 4) {i : Nat} (hi : i < 2) : pgW w i = encR (pgH d i) := by
 have h0 := encR_length (pgH_length hd (i := 0) (by decide))
 have h1 := encR_length (pgH_length hd (i := 1) (by decide))
 rw [pgW_of, hw, pgE_drop hd]
 rcases (show i = 0 ∨ i = 1 by omega) with rfl | rfl
 ·rw [Nat.zero_mul, List.drop_zero, List.take_left' h0]
 ·rw [Nat.one_mul, List.drop_left' h0, List.take_of_length_le (by omega)]
theorem halves (hd : d.length = 48) : pgH d 0 ++ pgH d 1 = d := by
 rw [pgH0, pgH1 hd, List.take_append_drop]
theorem page_words (hd : d.length = 48) (hc : c.length = 60) (hm : ¬ 16 < onesN (c.take 4)) {A B : List Nat} (hA : pgW c 0 = flipL (encR (pgH d 0)) A) (hB : pgW c 1 = flipL (encR (pgH d 1)) B)
  (nA : A.Nodup) (nB : B.Nodup) (lA : ∀ k ∈ A, k < 224) (lB : ∀ k ∈ B, k < 224) (fA : A.length ≤ 5) (fB : B.length ≤ 5) : pgD c = if 3 < A.length ∨ 3 < B.length then (1, []) else (2, d) := by
 split
 ·next h =>
  rcases h with h | h
  ·exact pgD_bad hc hm (k := 0) (by decide) (by rw [hA]; exact dec_not (pgH_length hd (by decide)) nA lA h fA)
  ·exact pgD_bad hc hm (k := 1) (by decide) (by rw [hB]; exact dec_not (pgH_length hd (by decide)) nB lB h fB)
 ·next h =>
  have h0 := dec_yes (pgH_length hd (i := 0) (by decide)) nA lA (by omega)
  have h1 := dec_yes (pgH_length hd (i := 1) (by decide)) nB lB (by omega)
  rw [pgD_good hc hm (by rw [hA]; exact h0.2) (by rw [hB]; exact h1.2), hA, hB, h0.1, h1.1, halves hd]
theorem page_flip (hd : d.length = 48) (hn : P.Nodup) (hl : ∀ k ∈ P, k < 480) (fA : (partP 4 28 P).length ≤ 5) (fB : (partP 32 28 P).length ≤ 5) :
  pgD (flipL (pgE d) P) = if 16 < (partP 0 4 P).length then (0, []) else if 3 < (partP 4 28 P).length ∨ 3 < (partP 32 28 P).length then (1, []) else (2, d) := by
 have hw := pgE_length hd
 have hl' : ∀ k ∈ P, k < 8 * (pgE d).length := by rw [hw]; exact hl
 have hc : (flipL (pgE d) P).length = 60 := by rw [flipL_length, hw]
 have hm : onesN ((flipL (pgE d) P).take 4) = (partP 0 4 P).length := by
  have := flip_part hn hl' (a := 0) (n := 4) (by rw [hw]; decide)
  rw [List.drop_zero, List.drop_zero, pgE_mark hd] at this
  rw [this]
  exact onesN_flip0 (partP_nodup hn) partP_lt
 have h0 : pgW (flipL (pgE d) P) 0 = flipL (encR (pgH d 0)) (partP 4 28 P) := by
  rw [← pgW_enc hd rfl (by decide), pgW_of, pgW_of, Nat.zero_mul, List.drop_zero, List.drop_zero]
  exact flip_part hn hl' (by rw [hw]; decide)
 have h1 : pgW (flipL (pgE d) P) 1 = flipL (encR (pgH d 1)) (partP 32 28 P) := by
  rw [← pgW_enc hd rfl (by decide), pgW_of, pgW_of, Nat.one_mul, List.drop_drop, List.drop_drop]
  exact flip_part hn hl' (by rw [hw]; decide)
 split
 ·next h => exact pgD_blank hc (by rw [hm]; exact h)
 ·next h => exact page_words hd hc (by rw [hm]; exact h) h0 h1 (partP_nodup hn) (partP_nodup hn) partP_lt partP_lt fA fB
end
def ffTo (n i : Nat) : List UInt8 := tab n (fun k => if k < i then 255 else 0)
def hfL (l : List Int) : List Int := l.map fun x => IntKind.i64.wrap (Int.tdiv x 224)
def noiseL (l : List Int) (most : Nat) : List Nat := (placesL l 224 most).map (32 + ·) ++ (placesL (hfL l) 224 most).map (256 + ·)
theorem hfL_length (l : List Int) : (hfL l).length = l.length := by simp [hfL]
theorem hfL_next {l : List Int} {i : Nat} (h : i < l.length) : hfL (l.take i) ++ [IntKind.i64.wrap (Int.tdiv (l.getD i 0) 224)] = hfL (l.take (i + 1)) := by rw [take_next (d := (0 : Int)) h]; simp [hfL]
theorem map_next {f : Nat → Nat} {l : List Nat} {i : Nat} (h : i < l.length) : (l.take i).map f ++ [f (l.getD i 0)] = (l.take (i + 1)).map f := by rw [take_next (d := 0) h]; simp
theorem noise_len (l : List Int) (most : Nat) : (noiseL l most).length ≤ 2 * most := by
 unfold noiseL
 rw [List.length_append, List.length_map, List.length_map]
 have := places_le l 224 most; have := places_le (hfL l) 224 most
 omega
section
variable {l l' : List Int} {most : Nat}
theorem noise_in (l : List Int) (most : Nat) : ∀ k ∈ noiseL l most, 32 ≤ k ∧ k < 480 := fun k hk => by
 unfold noiseL at hk
 rcases List.mem_append.1 hk with h | h <;> obtain ⟨x, hx, rfl⟩ := List.mem_map.1 h
 ·have := places_in l most (show 0 < 224 by decide) x hx; omega
 ·have := places_in (hfL l) most (show 0 < 224 by decide) x hx; omega
theorem noise_nodup (l : List Int) (most : Nat) : (noiseL l most).Nodup := by
 unfold noiseL
 refine List.nodup_append.2 ⟨?_, ?_, ?_⟩
 ·exact map_nodup (fun x y h => by omega) (places_nodup l most (by decide))
 ·exact map_nodup (fun x y h => by omega) (places_nodup (hfL l) most (by decide))
 ·intro x hx y hy
  obtain ⟨a, ha, rfl⟩ := List.mem_map.1 hx
  obtain ⟨b, hb, rfl⟩ := List.mem_map.1 hy
  have := places_in l most (show 0 < 224 by decide) a ha
  omega
theorem noise_first (l : List Int) (most : Nat) : partP 4 28 (noiseL l most) = placesL l 224 most := by
 unfold noiseL
 rw [partP_app, show (fun x => 32 + x) = (8 * 4 + · : Nat → Nat) from rfl, partP_all (places_in l most (by decide)), partP_none, List.append_nil]
 intro k hk
 obtain ⟨b, hb, rfl⟩ := List.mem_map.1 hk
 omega
theorem noise_second (l : List Int) (most : Nat) : partP 32 28 (noiseL l most) = placesL (hfL l) 224 most := by
 unfold noiseL
 rw [partP_app, show (fun x => 256 + x) = (8 * 32 + · : Nat → Nat) from rfl, partP_all (places_in (hfL l) most (by decide)), partP_none, List.nil_append]
 intro k hk
 obtain ⟨b, hb, rfl⟩ := List.mem_map.1 hk
 have := places_in l most (show 0 < 224 by decide) b hb
 omega
theorem noise_none (l : List Int) (most : Nat) : partP 0 4 (noiseL l most) = [] := partP_none fun k hk => by have := noise_in l most k hk; omega
variable {d : List UInt8}
theorem pg_mends (hd : d.length = 48) (l m : List Int) {most : Nat} (h5 : most ≤ 5) : pgD (flipL (pgE d) (noiseL l most ++ placesL m 32 16)) = if 3 < (placesL l 224 most).length ∨ 3 < (placesL (hfL l) 224 most).length then (1, []) else (2, d) := by
 have hm := places_in m 16 (show 0 < 32 by decide)
 have hA : partP 4 28 (noiseL l most ++ placesL m 32 16) = placesL l 224 most := by rw [partP_app, noise_first, partP_none (P := placesL m 32 16) fun k hk => by have := hm k hk; omega, List.append_nil]
 have hB : partP 32 28 (noiseL l most ++ placesL m 32 16) = placesL (hfL l) 224 most := by rw [partP_app, noise_second, partP_none (P := placesL m 32 16) fun k hk => by have := hm k hk; omega, List.append_nil]
 have hM : (partP 0 4 (noiseL l most ++ placesL m 32 16)).length ≤ 16 := by
  rw [partP_app, noise_none, List.nil_append]
  unfold partP
  rw [List.length_map]
  exact Nat.le_trans (List.length_filter_le ..) (places_le m 32 16)
 have hn : (noiseL l most ++ placesL m 32 16).Nodup := List.nodup_append.2 ⟨noise_nodup l most, places_nodup m 16 (by decide), fun x hx y hy => by have := noise_in l most x hx; have := hm y hy; omega⟩
 have hl : ∀ k ∈ noiseL l most ++ placesL m 32 16, k < 480 := fun k hk => by
  rcases List.mem_append.1 hk with h | h
  ·exact (noise_in l most k h).2
  ·have := hm k h; omega
 have a5 := places_le l 224 most
 have b5 := places_le (hfL l) 224 most
 rw [page_flip hd hn hl (by rw [hA]; omega) (by rw [hB]; omega), if_neg (by omega), hA, hB]
end
def moveTo (L : List Nat) (o i : Nat) : List Nat := (L.take i).map (o + ·) ++ L.drop i
end Go.Proofs.YtgalehapmdabeaaF
namespace Go.Proofs.YtgalehapmdabeaaF
open Go Shelf YtgalehapmdabeaaS Ram
structure RowV (s : NS) (D B Q k : Nat) (m : List UInt8) (x : Bool) (o w : Int) (c nx : Nat → Nat) (f : Nat → Nat → List UInt8) (z : Nat → Nat → List Int) : Prop where
 ct : Ctl s D B Q k m x o w
 v : ∀ d, d < D → ∃ er, Bv s d (c d) (nx d) er false (f d) (z d)
def upn : Nat → Int → Int
 | 0, o => o
 | i + 1, o => up1 (upn i o)
section
variable {s : NS} {D B Q k d p : Nat} {m : List UInt8} {x : Bool} {o w : Int} {c nx nx' : Nat → Nat} {f f' : Nat → Nat → List UInt8} {z z' : Nat → Nat → List Int} {l : List UInt8}
theorem RowV.to (h : RowV s D B Q k m x o w c nx f z) (h1 : ∀ d, d < D → nx d = nx' d) (h2 : ∀ d q, d < D → q < Q → f d q = f' d q) (h3 : ∀ d q, d < D → q < Q → z d q = z' d q) : RowV s D B Q k m x o w c nx' f' z' := ⟨h.ct, fun d hd => by
 obtain ⟨er, hv⟩ := h.v d hd
 exact ⟨er, hv.to (h1 d hd) (fun q hq => h2 d q hd (by rw [h.ct.gP] at hq; exact hq)) (fun q hq => h3 d q hd (by rw [h.ct.gP] at hq; exact hq))⟩⟩
theorem rv_to {s' : NS} (h : RowV s D B Q k m x o w c nx f z) (e : s = s') : RowV s' D B Q k m x o w c nx f z := e ▸ h
theorem rv_new {g : Nat → Nat → Bool} (hg : g = fun _ _ => false) (hc : ∀ d, d < D → c d < B) : RowV (NS.new D B Q g) D B Q 0 [] false 0 0 c (fun _ => 0) (fun _ _ => onesW) (fun _ _ => []) := by
 subst hg
 exact ⟨ctl_new D B Q _, fun d hd => ⟨0, bv_new hd (hc d hd)⟩⟩
theorem rv_prog (h : RowV s D B Q k m false o w c nx f z) (hd : d < D) (hp : p < Q) (hl : l.length = 60) (e : nx d = p) : s.progR d (c d) p l = (if k = 1 then 8 else 0) ∧
  RowV (s.prog d (c d) p l) D B Q (k - 1) m (decide (k = 1)) (up1 o) w c (fun j => if j = d then p + 1 else nx j) (fun j q => if j = d ∧ q = p then (if k = 1 then mixR onesW l m else l) else f j q) z := by
 obtain ⟨er, hv⟩ := h.v d hd
 obtain ⟨h1, h2, h3, h4⟩ := prog_done h.ct hv hp hl e
 refine ⟨h1, h2, fun j hj => ?_⟩
 by_cases ej : j = d
 ·subst ej
  refine ⟨er, Bv.to (nx' := if j = j then p + 1 else nx j) (f' := fun q => if j = j ∧ q = p then (if k = 1 then mixR onesW l m else l) else f j q) h3 (by rw [if_pos rfl, e]) (fun q _ => ?_) (fun _ _ => rfl)⟩
  by_cases eq : q = p
  ·rw [if_pos eq]
   exact (if_pos (show j = j ∧ q = p from ⟨rfl, eq⟩)).symm
  ·rw [if_neg eq, if_neg (fun h => eq h.2)]
 ·obtain ⟨er2, hv2⟩ := h.v j hj
  exact ⟨er2, Bv.to (nx' := if j = d then p + 1 else nx j) (f' := fun q => if j = d ∧ q = p then (if k = 1 then mixR onesW l m else l) else f j q) (h4 (.inl ej) hv2) (if_neg ej).symm (fun q _ => (if_neg (fun h => ej h.1)).symm) (fun _ _ => rfl)⟩
theorem rv_read (h : RowV s D B Q k m false o w c nx f z) (hd : d < D) (hp : p < Q) : s.askR (s.readOk d (c d) p) = 0 ∧ s.readL d (c d) p = flipI (f d p) (z d p) ∧ RowV (s.ask (s.readOk d (c d) p)) D B Q k m false (up1 o) w c nx f z := by
 obtain ⟨er, hv⟩ := h.v d hd
 obtain ⟨h1, h2⟩ := readL_eq h.ct hv hp
 exact ⟨h2, h1, read_ctl h.ct hv hp, fun j hj => by obtain ⟨er2, hv2⟩ := h.v j hj; exact ⟨er2, hv2.ask _⟩⟩
end
section
variable {s : NS} {D B Q p i : Nat} {m : List UInt8} {o w : Int} {c nx : Nat → Nat} {f : Nat → Nat → List UInt8} {z : Nat → Nat → List Int} {bl : List Int} {pl : Nat → List UInt8}
theorem rowP_ok (h : RowV s D B Q 0 m false o w c nx f z) (hbl : ∀ d, d < D → bl.getD d 0 = ((c d : Nat) : Int)) (hp : p < Q) (hpl : ∀ d, d < D → (pl d).length = 48) (hnx : ∀ d, d < D → nx d = p) : ∀ i, i ≤ D →
  RowV (rowP bl p pl s i) D B Q 0 m false (upn i o) w c (fun j => if j < i then p + 1 else nx j) (fun j q => if j < i ∧ q = p then pgE (pl j) else f j q) z ∧ ∀ j, j < i → rowPC bl p pl s j = 0
 | 0, _ => ⟨h.to (fun d _ => (if_neg (Nat.not_lt_zero d)).symm) (fun d q _ _ => (if_neg (fun h => Nat.not_lt_zero d h.1)).symm) (fun _ _ _ _ => rfl), fun j hj => absurd hj (Nat.not_lt_zero j)⟩
 | i + 1, hi => by
  obtain ⟨h1, h2⟩ := rowP_ok h hbl hp hpl hnx i (by omega)
  have e : (if i < i then p + 1 else nx i) = p := by rw [if_neg (by omega)]; exact hnx i (by omega)
  obtain ⟨h3, h4⟩ := rv_prog h1 (show i < D by omega) hp (pgE_length (hpl i (by omega))) e
  have hb := hbl i (by omega)
  refine ⟨?_, fun j hj => ?_⟩
  ·show RowV ((rowP bl p pl s i).prog (i : Nat) (bl.getD i 0) p (pgE (pl i))) _ _ _ _ _ _ _ _ _ _ _ _
   rw [hb]
   refine h4.to (fun d _ => ?_) (fun d q _ _ => ?_) (fun _ _ _ _ => rfl)
   ·by_cases e1 : d = i
    ·rw [if_pos e1, if_pos (by omega)]
    ·rw [if_neg e1]
     by_cases e2 : d < i
     ·rw [if_pos e2, if_pos (by omega)]
     ·rw [if_neg e2, if_neg (by omega)]
   ·by_cases e1 : d = i ∧ q = p
    ·rw [if_pos e1, if_neg (by decide), if_pos (by omega), e1.1]
    ·rw [if_neg e1]
     by_cases e2 : d < i ∧ q = p
     ·rw [if_pos e2, if_pos (by omega)]
     ·rw [if_neg e2, if_neg (by omega)]
  ·rcases Nat.lt_succ_iff_lt_or_eq.1 hj with hj | hj
   ·exact h2 j hj
   ·subst hj
    show (rowP bl p pl s j).progR (j : Nat) (bl.getD j 0) p (pgE (pl j)) = 0
    rw [hb]
    exact h3
theorem rowR_ok (h : RowV s D B Q 0 m false o w c nx f z) (hbl : ∀ d, d < D → bl.getD d 0 = ((c d : Nat) : Int)) (hp : p < Q) : ∀ i, i ≤ D →
  RowV (rowR bl p s i) D B Q 0 m false (upn i o) w c nx f z ∧ ∀ j, j < i → rowRC bl p s j = 0 ∧ rowRL bl p s j = flipI (f j p) (z j p)
 | 0, _ => ⟨h, fun j hj => absurd hj (Nat.not_lt_zero j)⟩
 | i + 1, hi => by
  obtain ⟨h1, h2⟩ := rowR_ok h hbl hp i (by omega)
  obtain ⟨h3, h4, h5⟩ := rv_read h1 (show i < D by omega) hp
  have hb := hbl i (by omega)
  refine ⟨?_, fun j hj => ?_⟩
  ·show RowV ((rowR bl p s i).ask ((rowR bl p s i).readOk (i : Nat) (bl.getD i 0) p)) _ _ _ _ _ _ _ _ _ _ _ _
   rw [hb]
   exact h5
  ·rcases Nat.lt_succ_iff_lt_or_eq.1 hj with hj | hj
   ·exact h2 j hj
   ·subst hj
    show (rowR bl p s j).askR ((rowR bl p s j).readOk (j : Nat) (bl.getD j 0) p) = 0 ∧ (rowR bl p s j).readL (j : Nat) (bl.getD j 0) p = _
    rw [hb]
    exact ⟨h3, h4⟩
theorem write_ok (h : RowV s D B Q 0 m false o w c nx f z) (hn : bl.length = D) (hbl : ∀ d, d < D → bl.getD d 0 = ((c d : Nat) : Int)) (hp : p < Q) (hpl : ∀ d, d < D → (pl d).length = 48) (hnx : ∀ d, d < D → nx d = p) :
  rowWC s bl p pl D = 0 ∧ RowV (rowWS s bl p pl D) D B Q 0 m false (upn D o) w c (fun _ => p + 1) (fun j q => if q = p then pgE (pl j) else f j q) z := by
 obtain ⟨h1, h2⟩ := rowP_ok h hbl hp hpl hnx D (Nat.le_refl _)
 obtain ⟨e1, e2⟩ := do_all (g := s.gD) (n := bl.length) (T := rowP bl p pl s) (C := rowPC bl p pl s) (by rw [hn, h.ct.gD]) (by rw [hn]; exact h2)
 unfold rowWC rowWS
 rw [if_pos hn.symm, if_pos hn.symm, ← e1, ← e2, hn]
 exact ⟨rfl, h1.to (fun d hd => if_pos hd) (fun d q hd _ => by
  by_cases e : q = p
  ·rw [if_pos ⟨hd, e⟩, if_pos e]
  ·rw [if_neg (fun h => e h.2), if_neg e]) (fun _ _ _ _ => rfl)⟩
theorem write_shape {n : Nat} (h : ¬ (n = bl.length ∧ bl.length = s.gD)) (p : Int) (pl : Nat → List UInt8) : rowWC s bl p pl n = 1 ∧ rowWS s bl p pl n = s := by
 unfold rowWC rowWS
 by_cases e : n = bl.length
 ·have hD : ¬ bl.length = s.gD := fun e2 => h ⟨e, e2⟩
  obtain ⟨e1, e2⟩ := do_no (T := rowP bl p pl s) (C := rowPC bl p pl s) hD
  rw [if_pos e, if_pos e, ← e1, ← e2]
  exact ⟨rfl, rfl⟩
 ·rw [if_neg e, if_neg e]
  exact ⟨rfl, rfl⟩
theorem reads_ok (h : RowV s D B Q 0 m false o w c nx f z) (hn : bl.length = D) (hbl : ∀ d, d < D → bl.getD d 0 = ((c d : Nat) : Int)) (hp : p < Q) :
  rowDoC s.gD bl.length (rowRC bl p s) = 0 ∧ RowV (rowDo s.gD bl.length (rowR bl p s) (rowRC bl p s)) D B Q 0 m false (upn D o) w c nx f z ∧ ∀ j, j < D → rowRL bl p s j = flipI (f j p) (z j p) := by
 obtain ⟨h1, h2⟩ := rowR_ok h hbl hp D (Nat.le_refl _)
 obtain ⟨e1, e2⟩ := do_all (g := s.gD) (n := bl.length) (T := rowR bl p s) (C := rowRC bl p s) (by rw [hn, h.ct.gD]) (by rw [hn]; exact fun j hj => (h2 j hj).1)
 rw [← e1, ← e2, hn]
 exact ⟨rfl, h1, fun j hj => (h2 j hj).2⟩
end
def plD (la : List UInt8) (n i : Nat) : List UInt8 := ((dataL la (48 * n)).drop (48 * i)).take 48
theorem plD_len (la : List UInt8) {n i : Nat} (h : i < n) : (plD la n i).length = 48 := by
 unfold plD
 rw [List.length_take, List.length_drop, dataL_length]
 omega
theorem plD_le (la : List UInt8) (n i : Nat) : (plD la n i).length ≤ 1048576 := by
 unfold plD
 rw [List.length_take]
 omega
theorem rep_at {n i : Nat} : (List.replicate n (0 : Int)).getD i 0 = 0 := by
 rw [List.getD_eq_getElem?_getD, List.getElem?_replicate]
 split <;> rfl
section
variable {P : Program} {d : Option Tmp} {tt : TypeId} {s : String} {af : Array Edge} {g : Option (Nat × Bool)} {ρ : Operand → Value} {w : World} {t : TypeId} {fs : Array Field} {f : Nat} {fd : Field} {bytes : Nat} {z u : Value} {x : Operand} {v : Nat × Value} {X : Nat → Prop}
theorem d_fieldG (n : Nat) (ht : P.underlying t = some (.struct fs)) (hf : fs[f]? = some fd) (hz : TI P fd.type 1 bytes z) (ho : fd.offset = n) (hx : ρ x = u) (hA : Ps X (At (kA 2 eG) v u) w) (c : Value) (hv : (eG v)[n]? = some c) :
  Does P ⟨d, .fieldAddr t x f, tt, s, af, g⟩ ρ w fun u' w' => Ps X (At (kS id) c u') w ∧ w = w' := by
 obtain ⟨p, hu, _, hc⟩ := hA.now
 refine Does.of_value (v := .pointer (some (p.add n))) (w' := w) (by simp) ?_ ⟨?_, rfl⟩
 ·subst hu; subst ho
  simp [execOp, Instr.fieldAt, Instr.sureAddr, fieldPlace, run_underlying ht, hf, hx, hz.size, go_sem]
 ·refine hA.imp (fun w2 h2 => ?_)
  obtain ⟨p', hu', _, hc'⟩ := h2
  rw [hu] at hu'
  injection hu' with hu'
  injection hu' with hu'
  subst hu'
  exact ⟨_, rfl, hc' _ _ hv⟩
theorem d_fieldG0 (ht : P.underlying t = some (.struct fs)) (hf : fs[f]? = some fd) (hz : TI P fd.type 1 bytes z) (ho : fd.offset = 0) (hx : ρ x = u) (hA : Ps X (At (kA 2 eG) v u) w) : Does P ⟨d, .fieldAddr t x f, tt, s, af, g⟩ ρ w fun u' w' => Ps X (At kN v.1 u') w ∧ w = w' :=
 d_fieldG 0 ht hf hz ho hx hA (eN v.1) rfl
theorem d_fieldG1 (ht : P.underlying t = some (.struct fs)) (hf : fs[f]? = some fd) (hz : TI P fd.type 1 bytes z) (ho : fd.offset = 1) (hx : ρ x = u) (hA : Ps X (At (kA 2 eG) v u) w) : Does P ⟨d, .fieldAddr t x f, tt, s, af, g⟩ ρ w fun u' w' => Ps X (At (kS eV) v.2 u') w ∧ w = w' :=
 d_fieldG 1 ht hf hz ho hx hA v.2 rfl
end
def RF.isv (O : Nat → Prop) (g : (Nat → Value) → Value) : RF O := ⟨fun v u _ _ _ => u = g v, fun h _ => h⟩
def RF.pl (O X : Nat → Prop) (n : Nat) (f : Nat → List UInt8) (hOX : ∀ k, O k → X k) : RF O :=
 ⟨fun _ u _ _ w => ∃ vs, vs.length = n ∧ Ps X (Seq (kS eV) vs u) w ∧ Ps X (Fam kB n f vs) w, fun hp ho => by obtain ⟨vs, h1, h2, h3⟩ := hp; exact ⟨vs, h1, h2.step ho hOX, h3.step ho hOX⟩⟩
def bl6 : List Int := [0, 1, 2, 3, 4, 5]
def OrdR (s : NS) (nx wr : Nat) (lb : List UInt8) : Prop := ∃ o, RowV s 6 8 4 0 [] false o (wr : Int) (fun d => d) (fun _ => nx) (fun j q => if q < nx then pgE (plD lb 6 j) else onesW) (fun _ _ => [])
end Go.Proofs.YtgalehapmdabeaaF
namespace Go.Proofs.YtgalehapmdabeaaF
open Go Shelf YtgalehapmdabeaaS
def Nodef (p : World → Prop) : Prop := ∀ w w', (∀ k, k < w.heap.size → w'.heap[k]? = w.heap[k]? ∨ ∃ q, w.heap[k]? = some (.deferred q)) → p w → p w'
end Go.Proofs.YtgalehapmdabeaaF
set_option maxRecDepth 20000
set_option maxHeartbeats 4000000
namespace Go.Proofs.YtgalehapmdabeaaF
open Go Shelf YtgalehapmdabeaaS Ram
theorem placed_ok (bl : List Int) (ub : Value) (W : World) (hb : Ps No (Seq kI bl ub) W) :
    CW Try.prog 85 #[ub] W (Rt (fun u w => ∃ x, u = .func (.func 106) #[] #[ptr x 0] ∧ W.heap.size ≤ x ∧ Arr 23 x [ub] w ∧ Only No W w)) := by
 have oW : Only No W W := Only.refl _ _
 refine enter (al := [ub]) (k := 3) (l := [ub, undef, undef, undef]) Try.func85 rfl Try.ntmps85 rfl rfl ?_
 refine wQ (pL ?_)
 refine wO (d_box rfl (Seq.cells hb)) ?_
 rintro _ w11 ⟨x, rfl, g12, a13, o14⟩
 have g_oW_x : W.heap.size ≤ x := Nat.le_trans oW.size g12
 replace hb := hb.new o14 g12
 replace oW := oW.tail0 o14
 refine wI (d_assign rfl) ?_
 refine wD (tN (wQ (pL ?_)))
 refine wI (d_funcL (yl := [.tmp 1]) (ys := [(ptr x 0)]) rfl) ?_
 refine wI (d_assign rfl) ?_
 refine wD (tN ?_)
 refine wpIn_ret ?_
 refine leave0 (v := (Value.func (.func 106) #[] #[(ptr x 0)])) (res1 Try.results85 rfl) ?_
 exact ⟨x, rfl, g_oW_x, a13, oW⟩
theorem placed1_ok {O X : Nat → Prop} {w0 : World} (bl : List Int) (ub : Value) (xb l : Nat) (J Jx : List (Nat × Int) → World → Prop) (W : World) (hxb : Arr 23 xb [ub] W) (kxb : Kp O w0.heap.size xb) (hbl : Ps (OrN X w0.heap.size) (Seq kI bl ub) W) (hX : ∀ k, O k → X k) (gb : bl.length ≤ 1000) (SJ : ∀ pre W W', J pre W → Only No W W' → J pre W') (hyy : ∀ pre k, pre ++ [k] <+: plL bl → ∀ W1, J pre W1 → YieldAt Fence.wide 0 Try.prog l #[eN k.1, eI k.2] W1 fun e W' => ∃ u, e = .returned u ∧ YR J Jx (Kp O w0.heap.size) (pre ++ [k]) W1 u W') (hJ : J [] W) :
    CW Try.prog 106 #[(Value.func (.yield l) #[] #[]), (ptr xb 0)] W (Rt (fun _ W' => J (plL bl) W' ∨ ∃ pre, pre <+: plL bl ∧ Jx pre W')) := by
 refine enter (al := [(Value.func (.yield l) #[] #[]), (ptr xb 0)]) (k := 16) (l := ([(Value.func (.yield l) #[] #[]), (ptr xb 0)] ++ (us 16))) Try.func106 rfl Try.ntmps106 rfl rfl ?_
 refine wQ (pL ?_)
 refine wI (d_load (v := ub) ⟨_, Try.underlying23, rfl⟩ rfl hxb rfl) ?_
 refine wI (d_lenS rfl Try.underlying23 rfl hbl) ?_
 refine wI (d_move rfl) ?_
 refine wD (tN (wB ?_))
 refine loop2 (fun (i : (Nat)) => fun (z : Nat → Value) => (([(Value.func (.yield l) #[] #[]), (ptr xb 0), undef, (z 3), (z 4), ub, (eN bl.length), (eN i)] ++ (zs z 8 10)) : List Value)) (fun (i : (Nat)) => fun (w_ : World) => (i ≤ bl.length) ∧ (J (plTo bl i) w_) ∧ Arr 23 xb [ub] w_ ∧ Ps (OrN X w0.heap.size) (Seq kI bl ub) w_) (fun (i : (Nat)) => bl.length - i) 0 kr ?_ ?_
 ·
  refine ⟨?_, ?_, ?_, ?_⟩
  ·
   exact Nat.zero_le _
  ·
   exact hJ
  ·
   exact hxb
  ·
   exact hbl
 rintro i z w12 ⟨hi, hJ, hxb, hbl⟩
 (try dsimp only)
 refine wQ (pL ?_)
 refine wI (n_lss (a := i) (b := bl.length) rfl rfl rfl) ?_
 refine wD (tN (wQ ?_))
 refine cond_if rfl (fun c1_ => ?_) (fun c1_ => ?_)
 ·
  refine wK (tN (wQ (wB (wQ (pL ?_)))))
  refine wI (d_move rfl) ?_
  refine wI (d_ix (i := i) (xs := bl) Try.underlying23 s_ti3 rfl hbl (show _ = Value.int _ (i : Int) from rfl) fo) ?_
  refine wI (d_ldx (i := i) (xs := bl) (enc := eI) (v := (bl.getD i 0)) ⟨_, Try.underlying3, rfl⟩ rfl hbl (g_at fo)) ?_
  refine wI (d_assign rfl) ?_
  refine wF ([(Value.func (.yield l) #[] #[]), (ptr xb 0), undef, (eN i), (z 4), ub, (eN bl.length), (eN i), (Value.bool (decide (i < bl.length))), (eN i), (ixp ub i), (eI (bl.getD i 0))] ++ (zs z 12 6)) ?_
  refine wI (d_assign rfl) ?_
  refine wD (tN (wQ (pL ?_)))
  refine wI (d_move rfl) ?_
  refine wI (d_move rfl) ?_
  refine wI (d_move rfl) ?_
  refine wO (d_yield (xl := [.tmp 13, .tmp 14]) (al := [(eN i), (eI (bl.getD i 0))]) rfl rfl (hyy _ _ (pl_pre c1_) _ hJ)) ?_
  rintro _ w13 ⟨t, rfl, hT, hF⟩
  refine wF [(Value.func (.yield l) #[] #[]), (ptr xb 0), undef, (eN i), (eI (bl.getD i 0)), ub, (eN bl.length), (eN i), (Value.bool (decide (i < bl.length))), (eN i), (ixp ub i), (eI (bl.getD i 0)), (Value.func (.yield l) #[] #[]), (eN i), (eI (bl.getD i 0)), (Value.bool t), (z 16), (z 17)] ?_
  refine wI (d_not rfl rfl) ?_
  refine wD (tN ?_)
  refine cond_b rfl (fun c0_ => ?_) (fun c0_ => ?_)
  ·
   refine wpIn_ret ?_
   refine inb_r (then_r (then_r (inb_r ?_)))
   refine leave0 (v := (Value.tuple #[])) (res0 Try.results106) ?_
   exact .inr ⟨_, pl_pre c1_, hF (by simpa using c0_)⟩
  obtain ⟨hJ3, oY⟩ := hT (by simpa using c0_)
  rw [plTo_next] at hJ3
  replace hxb := hxb.step oY (fun h => h kxb)
  replace hbl := hbl.yield hX oY
  refine wK ?_
  refine inb_n (tN ?_)
  refine pL ?_
  refine wI (n_add (a := i) (b := 1) rfl rfl oo) ?_
  refine wI (d_move rfl) ?_
  refine wD (tN ?_)
  refine ⟨_, (i + 1), rfl, kr, ⟨?_, ?_, ?_, ?_⟩, ?_⟩
  ·
   (try dsimp only)
   all_goals (omega)
  ·
   exact hJ3
  ·
   exact hxb
  ·
   exact hbl
  ·
   (try dsimp only)
   all_goals (omega)
 refine wpIn_exit ?_
 refine then_x (then_x (inb_e ?_))
 refine to_ret ?_
 refine leave0 (v := (Value.tuple #[])) (res0 Try.results106) ?_
 exact .inl (by unfold plL; rw [show i = bl.length by omega] at hJ; exact hJ)
theorem iter_placed {O X : Nat → Prop} {w0 : World} (bl : List Int) (ub : Value) (xb : Nat) (hxb : Arr 23 xb [ub] w0) (ox : ¬ O xb) (hbl : Ps X (Seq kI bl ub) w0) (hX : ∀ k, O k → X k) (gb : bl.length ≤ 1000) : Iter Try.prog 106 [ptr xb 0].toArray (fun k => [eN k.1, eI k.2].toArray) No (Kp O w0.heap.size) (plL bl) w0 :=
  iter_of (encs := fun k => [eN k.1, eI k.2]) fun l J Jx W hO SJ SJx hyy hJ => placed1_ok bl ub xb l J Jx W (hxb.step hO (fun h => h ⟨hxb.lt, ox⟩)) ⟨hxb.lt, ox⟩ (hbl.kp hX hO) hX gb SJ hyy hJ
theorem write1_ok (L : NL) (s : NS) {X : Nat → Prop} (W : World) (hN : Nd L s X W) (hX : ∀ k, X k → k < W.heap.size) (d n : Nat) (b : Int) (p : Int) (vs : List Value) (pl : Nat → List UInt8) (ul : Value) (ca cb cc : Nat) (hca : Arr 88 ca [(Value.func (.func 53) #[(ptr L.bN 0)] #[])] W) (hX_ca : X ca) (hcb : Arr 3 cb [(eI p)] W) (hX_cb : X cb) (hcc : Arr 29 cc [ul] W) (hX_cc : X cc) (n_ca_cb : ca ≠ cb) (n_ca_cc : ca ≠ cc) (n_cb_cc : cb ≠ cc) (hul : Ps (Ors L.S No) (Seq (kS eV) vs ul) W) (hfa : Ps (Ors L.S No) (Fam kB n pl vs) W) (hvs : vs.length = n) (gpl : ∀ j, (pl j).length ≤ 1048576) (hd : d < n) :
    CW Try.prog 55 #[(eN d), (eI b), (ptr ca 0), (ptr cb 0), (ptr cc 0)] W (Rt (fun u w => u = eN (s.progR (d : Int) b p (pgE (pl d))) ∧ Nd L (s.prog (d : Int) b p (pgE (pl d))) X w ∧ Only L.S W w)) := by
 have oW : Only L.S W W := Only.refl _ _
 refine enter (al := [(eN d), (eI b), (ptr ca 0), (ptr cb 0), (ptr cc 0)]) (k := 13) (l := ([(eN d), (eI b), (ptr ca 0), (ptr cb 0), (ptr cc 0)] ++ (us 13))) Try.func55 rfl Try.ntmps55 rfl rfl ?_
 refine wQ (pL ?_)
 refine wI (d_assign rfl) ?_
 refine wD (tN (wQ ?_))
 have hrw_ := fam_at hfa hd
 have gpd_ := gpl d
 refine wp_eq (l' := ([(eN d), (eI b), (ptr ca 0), (ptr cb 0), (ptr cc 0), undef, undef, (eN 0)] ++ (us 10))) rfl ?_
 refine drawnT (O := (Ors L.S No)) (n := 11) 9 [0, 0, 0, 0, 0, 0, 48, 112, 240, 511, 1023] [(0, 8), (1, 9), (2, 10), (3, 11), (4, 12), (5, 13), (6, 14), (7, 15), (8, 16), (9, 17), (10, 7)] [(0, 8), (1, 9), (2, 10), (3, 11), (4, 12), (5, 13), (6, 14), (7, 15), (8, 16)] [0, 1, 2, 3, 4, 5, 6, 7, 8] [] (fun i_ => ([RF.is (Ors L.S No) (Value.func (.func 53) #[(ptr L.bN 0)] #[]), RF.is (Ors L.S No) (eN d), RF.is (Ors L.S No) (eI b), RF.is (Ors L.S No) (eI p), RF.is (Ors L.S No) ul, RF.is (Ors L.S No) (eN d), RF.is (Ors L.S No) (ixp ul d), RF.is (Ors L.S No) (vs.getD d undef), RF.ps (Ors L.S No) (Ors L.S (Old W.heap.size)) (Seq kB (pgE (pl d))) (ors_mono no_any)] : List (RF (Ors L.S No))).getD i_ (RF.any (Ors L.S No))) (fun _ w_ => Arr 88 ca [(Value.func (.func 53) #[(ptr L.bN 0)] #[])] w_ ∧ Arr 3 cb [(eI p)] w_ ∧ Arr 29 cc [ul] w_ ∧ Nd L s X w_) (fun v11 => [(eN d), (eI b), (ptr ca 0), (ptr cb 0), (ptr cc 0), undef, undef, (v11 10), (v11 0), (v11 1), (v11 2), (v11 3), (v11 4), (v11 5), (v11 6), (v11 7), (v11 8), (v11 9)]) (fun v11 => [(eN d), (eI b), (ptr ca 0), (ptr cb 0), (ptr cc 0), undef, undef, (eN 0), (v11 0), (v11 1), (v11 2), (v11 3), (v11 4), (v11 5), (v11 6), (v11 7), (v11 8), undef]) s_mx kr rfl (by decide) (by rfl) kr kr kr (by rfl) (fun v_ => by kernel_rfl) (fun v_ => by kernel_rfl) (fun _ => fun w_ w2_ h ho => by obtain ⟨r_hca, r_hcb, r_hcc, r_hN⟩ := h; exact ⟨r_hca.step0 ho, r_hcb.step0 ho, r_hcc.step0 ho, r_hN.step0 ho⟩) ⟨hca, hcb, hcc, hN⟩ ?_ ?_ ?_
 ·
  refine ls_cons ?_ ?_
  ·
   intro v11 lo hi w_ k_ hO hd _ _ hk_ _ hR hold
   obtain ⟨r_hca, r_hcb, r_hcc, r_hN⟩ := hR
   clear hd hold
   refine ⟨_, rfl, gd rfl ?_⟩
   exact Does.is (d_load (v := (Value.func (.func 53) #[(ptr L.bN 0)] #[])) ⟨_, Try.underlying88, rfl⟩ rfl r_hca rfl)
  refine ls_cons ?_ ?_
  ·
   intro v11 lo hi w_ k_ hO hd _ _ hk_ _ hR hold
   obtain ⟨r_hca, r_hcb, r_hcc, r_hN⟩ := hR
   clear hd hold
   refine ⟨_, rfl, gd rfl ?_⟩
   exact Does.is (d_move rfl)
  refine ls_cons ?_ ?_
  ·
   intro v11 lo hi w_ k_ hO hd _ _ hk_ _ hR hold
   obtain ⟨r_hca, r_hcb, r_hcc, r_hN⟩ := hR
   clear hd hold
   refine ⟨_, rfl, gd rfl ?_⟩
   exact Does.is (d_move rfl)
  refine ls_cons ?_ ?_
  ·
   intro v11 lo hi w_ k_ hO hd _ _ hk_ _ hR hold
   obtain ⟨r_hca, r_hcb, r_hcc, r_hN⟩ := hR
   clear hd hold
   refine ⟨_, rfl, gd rfl ?_⟩
   exact Does.is (d_load (v := (eI p)) ⟨_, Try.underlying3, rfl⟩ rfl r_hcb rfl)
  refine ls_cons ?_ ?_
  ·
   intro v11 lo hi w_ k_ hO hd _ _ hk_ _ hR hold
   obtain ⟨r_hca, r_hcb, r_hcc, r_hN⟩ := hR
   clear hd hold
   refine ⟨_, rfl, gd rfl ?_⟩
   exact Does.is (d_load (v := ul) ⟨_, Try.underlying29, rfl⟩ rfl r_hcc rfl)
  refine ls_cons ?_ ?_
  ·
   intro v11 lo hi w_ k_ hO hd _ _ hk_ _ hR hold
   obtain ⟨r_hca, r_hcb, r_hcc, r_hN⟩ := hR
   clear hd hold
   refine ⟨_, rfl, gd rfl ?_⟩
   exact Does.is (d_move rfl)
  refine ls_cons ?_ ?_
  ·
   intro v11 lo hi w_ k_ hO hd _ _ hk_ _ hR hold
   obtain ⟨r_hca, r_hcb, r_hcc, r_hN⟩ := hR
   have e4 : v11 4 = ul := hd 4 kr
   have e5 : v11 5 = (eN d) := hd 5 kr
   clear hd hold
   refine ⟨_, rfl, gd rfl ?_⟩
   exact Does.is (d_ix (i := d) (xs := vs) Try.underlying29 s_ti22 e4 (hul.step hO (ors_mono no_any)) (show _ = Value.int _ (d : Int) from e5) fo)
  refine ls_cons ?_ ?_
  ·
   intro v11 lo hi w_ k_ hO hd _ _ hk_ _ hR hold
   obtain ⟨r_hca, r_hcb, r_hcc, r_hN⟩ := hR
   have e6 : v11 6 = (ixp ul d) := hd 6 kr
   clear hd hold
   refine ⟨_, rfl, gd rfl ?_⟩
   exact Does.is (d_ldx (i := d) (xs := vs) (enc := eV) (v := (vs.getD d undef)) ⟨_, Try.underlying22, rfl⟩ e6 (hul.step hO (ors_mono no_any)) (g_at fo))
  refine ls_cons ?_ ?_
  ·
   intro v11 lo hi w_ k_ hO hd _ _ hk_ _ hR hold
   obtain ⟨r_hca, r_hcb, r_hcc, r_hN⟩ := hR
   have e7 : v11 7 = (vs.getD d undef) := hd 7 kr
   clear hd hold
   refine ⟨_, rfl, gd rfl ?_⟩
   refine Does.mono (R := ROw 5 eB (pgE (pl d)) w_) ?_ (fun u w' h => ⟨(h.ps).1.less (ors_old r_hN.lt (old_old (Nat.le_trans oW.size hO.size))), (h.ps).2⟩)
   exact d_call (xl := [.tmp 15]) (al := [(vs.getD d undef)]) Try.func16 kr rfl (show ([(v11 7)] : List Value) = [(vs.getD d undef)] from by rw [e7]) rfl (pageEncode_ok (pl d) (vs.getD d undef) _ (Ps.no (hrw_.step hO (ors_mono no_any))) fo)
  exact ls_nil
 ·
  exact ms_nil
 intro v11 lo_ hi_ w12 o13 hd iv_ hR
 have e0 : v11 0 = (Value.func (.func 53) #[(ptr L.bN 0)] #[]) := hd 0 (by decide)
 have e1 : v11 1 = (eN d) := hd 1 (by decide)
 have e2 : v11 2 = (eI b) := hd 2 (by decide)
 have e3 : v11 3 = (eI p) := hd 3 (by decide)
 have e4 : v11 4 = ul := hd 4 (by decide)
 have e5 : v11 5 = (eN d) := hd 5 (by decide)
 have e6 : v11 6 = (ixp ul d) := hd 6 (by decide)
 have e7 : v11 7 = (vs.getD d undef) := hd 7 (by decide)
 have f_v11_8 : Ps (Ors L.S (Old W.heap.size)) (Seq kB (pgE (pl d)) (v11 8)) w12 := hd 8 (by decide)
 clear hd iv_ lo_ hi_
 refine wpL.flat [(eN d), (eI b), (ptr ca 0), (ptr cb 0), (ptr cc 0), undef, undef, (eN 0), (Value.func (.func 53) #[(ptr L.bN 0)] #[]), (eN d), (eI b), (eI p), ul, (eN d), (ixp ul d), (vs.getD d undef), (v11 8), undef] (by rw [e0, e1, e2, e3, e4, e5, e6, e7] <;> rfl) ?_
 clear e0 e1 e2 e3 e4 e5 e6 e7
 replace hul := hul.step o13 (ors_mono no_any)
 replace hfa := hfa.step o13 (ors_mono no_any)
 replace hrw_ := hrw_.step o13 (ors_mono no_any)
 obtain ⟨xr_hca, xr_hcb, xr_hcc, xr_hN⟩ := hR
 replace hca : Arr 88 ca [(Value.func (.func 53) #[(ptr L.bN 0)] #[])] w12 := xr_hca
 replace hcb : Arr 3 cb [(eI p)] w12 := xr_hcb
 replace hcc : Arr 29 cc [ul] w12 := xr_hcc
 replace hN := xr_hN
 clear xr_hca xr_hcb xr_hcc xr_hN
 replace oW := oW.tail o13 (tl_sin (fun k h => h) tl_no)
 refine wO (d_callB (xl := [.tmp 9, .tmp 10, .tmp 11, .tmp 16]) (al := [(eN d), (eI b), (eI p), (v11 8)]) rfl Try.func53 kr rfl rfl rfl (prog_ok L s _ hN (d : Int) b p (pgE (pl d)) (v11 8) (fun k t => Nat.lt_of_lt_of_le (hX k t) oW.size) (f_v11_8.less (os_of sub1)) (by have := pgE_len (pl d); first | omega | (simp; done) | (simp; omega)))) ?_
 rintro _ w14 ⟨rfl, a16, o15⟩
 replace hca := hca.step o15 (hN.dis _ hX_ca)
 replace hcb := hcb.step o15 (hN.dis _ hX_cb)
 replace hcc := hcc.step o15 (hN.dis _ hX_cc)
 replace hul := hul.step o15 sub1
 replace hfa := hfa.step o15 sub1
 replace hrw_ := hrw_.step o15 sub1
 replace f_v11_8 := f_v11_8.step o15 sub1
 replace oW := oW.tail o15 (fun k _ e => (fun k h => h) k e)
 replace hN := a16
 refine wF [(eN d), (eI b), (ptr ca 0), (ptr cb 0), (ptr cc 0), undef, undef, (eN 0), (Value.func (.func 53) #[(ptr L.bN 0)] #[]), (eN d), (eI b), (eI p), ul, (eN d), (ixp ul d), (vs.getD d undef), (v11 8), (eN (s.progR (d : Int) b p (pgE (pl d))))] ?_
 refine wI (d_assign rfl) ?_
 refine wF [(eN d), (eI b), (ptr ca 0), (ptr cb 0), (ptr cc 0), undef, undef, (eN (s.progR (d : Int) b p (pgE (pl d)))), (Value.func (.func 53) #[(ptr L.bN 0)] #[]), (eN d), (eI b), (eI p), ul, (eN d), (ixp ul d), (vs.getD d undef), (v11 8), (eN (s.progR (d : Int) b p (pgE (pl d))))] ?_
 refine wD (tN ?_)
 refine wpIn_ret ?_
 refine leave0 (v := (eN (s.progR (d : Int) b p (pgE (pl d))))) (res1 Try.results55 rfl) ?_
 exact ⟨rfl, hN, oW⟩
theorem eachW_ok (L : NL) (s : NS) {X : Nat → Prop} (W : World) (hN : Nd L s X W) (hX : ∀ k, X k → k < W.heap.size) (bl : List Int) (ub : Value) (hb : Ps (Ors L.S No) (Seq kI bl ub) W) (gb : bl.length ≤ 1000) (n : Nat) (hn : bl.length ≤ n) (p : Int) (vs : List Value) (pl : Nat → List UInt8) (ul : Value) (ca cb cc : Nat) (hca : Arr 88 ca [(Value.func (.func 53) #[(ptr L.bN 0)] #[])] W) (hX_ca : X ca) (hcb : Arr 3 cb [(eI p)] W) (hX_cb : X cb) (hcc : Arr 29 cc [ul] W) (hX_cc : X cc) (n_ca_cb : ca ≠ cb) (n_ca_cc : ca ≠ cc) (n_cb_cc : cb ≠ cc) (hul : Ps (Ors L.S No) (Seq (kS eV) vs ul) W) (hfa : Ps (Ors L.S No) (Fam kB n pl vs) W) (hvs : vs.length = n) (gpl : ∀ j, (pl j).length ≤ 1048576) :
    CW Try.prog 54 #[(ptr L.bN 0), ub, (Value.func (.func 55) #[] #[(ptr ca 0), (ptr cb 0), (ptr cc 0)])] W (Rt (fun u w => u = eN (rowDoC s.gD bl.length (rowPC bl p pl s)) ∧ Nd L (rowDo s.gD bl.length (rowP bl p pl s) (rowPC bl p pl s)) X w ∧ Only L.S W w)) := by
 have oW : Only L.S W W := Only.refl _ _
 refine enter (al := [(ptr L.bN 0), ub, (Value.func (.func 55) #[] #[(ptr ca 0), (ptr cb 0), (ptr cc 0)])]) (k := 24) (l := ([(ptr L.bN 0), ub, (Value.func (.func 55) #[] #[(ptr ca 0), (ptr cb 0), (ptr cc 0)])] ++ (us 24))) Try.func54 rfl Try.ntmps54 rfl rfl ?_
 refine wQ (pL ?_)
 refine wO (d_box rfl rfl) ?_
 rintro _ w11 ⟨e5, rfl, g12, a13, o14⟩
 have n_ca_e5 : ca ≠ e5 := hca.ne g12
 have n_cb_e5 : cb ≠ e5 := hcb.ne g12
 have n_cc_e5 : cc ≠ e5 := hcc.ne g12
 have g_oW_e5 : W.heap.size ≤ e5 := Nat.le_trans oW.size g12
 replace hN := hN.new o14 g12
 replace hul := hul.new o14 g12
 replace hfa := hfa.new o14 g12
 replace hb := hb.new o14 g12
 replace hca := hca.step0 o14
 replace hcb := hcb.step0 o14
 replace hcc := hcc.step0 o14
 replace oW := oW.tail0 o14
 refine wO (d_alloc s_ti45 rfl) ?_
 rintro _ w15 ⟨e6, rfl, g16, a17, o18⟩
 have n_ca_e6 : ca ≠ e6 := hca.ne g16
 have n_cb_e6 : cb ≠ e6 := hcb.ne g16
 have n_cc_e6 : cc ≠ e6 := hcc.ne g16
 have n_e5_e6 : e5 ≠ e6 := a13.ne g16
 have g_oW_e6 : W.heap.size ≤ e6 := Nat.le_trans oW.size g16
 replace hN := hN.new o18 g16
 replace hul := hul.new o18 g16
 replace hfa := hfa.new o18 g16
 replace hb := hb.new o18 g16
 replace hca := hca.step0 o18
 replace hcb := hcb.step0 o18
 replace hcc := hcc.step0 o18
 replace a13 := a13.step0 o18
 replace oW := oW.tail0 o18
 refine wD (tN (wQ (wQ ?_)))
 by_cases k0 : bl.length = s.gD
 ·
  refine pL ?_
  refine wI (d_move rfl) ?_
  refine wI (d_lenS rfl Try.underlying23 rfl hb) ?_
  refine wI (d_move rfl) ?_
  refine wF ([(ptr L.bN 0), ub, (Value.func (.func 55) #[] #[(ptr ca 0), (ptr cb 0), (ptr cc 0)]), undef, undef, (ptr e5 0), (ptr e6 0), undef, undef, undef, ub, (eN bl.length), (ptr L.bN 0)] ++ (us 14)) ?_
  refine wO (d_call (xl := [.tmp 12]) (al := [(ptr L.bN 0)]) Try.func84 kr rfl rfl rfl (geometry_ok L s _ hN)) ?_
  rintro _ w19 ⟨rfl, o20⟩
  replace hN := hN.step0 o20
  replace hul := hul.step0 o20
  replace hfa := hfa.step0 o20
  replace hb := hb.step0 o20
  replace hca := hca.step0 o20
  replace hcb := hcb.step0 o20
  replace hcc := hcc.step0 o20
  replace a13 := a13.step0 o20
  replace a17 := a17.step0 o20
  replace oW := oW.tail0 o20
  refine wI (d_field (v := (eN s.gD)) Try.underlying49 rfl ⟨_, Try.underlying3, rfl⟩ rfl rfl) ?_
  refine wI (n_neq (a := bl.length) (b := s.gD) rfl rfl (by rw [decide_eq_true k0] <;> rfl)) ?_
  refine wD (tN ?_)
  refine cond_f rfl ?_
  refine wK (tN (wQ (wQ (pL ?_))))
  refine wI (d_move rfl) ?_
  refine wO (d_call (xl := [.tmp 16]) (al := [ub]) Try.func85 kr rfl rfl rfl (placed_ok bl ub _ (Ps.no hb))) ?_
  rintro _ w21 ⟨b23, rfl, g24, a25, o22⟩
  have n_ca_b23 : ca ≠ b23 := hca.ne g24
  have n_cb_b23 : cb ≠ b23 := hcb.ne g24
  have n_cc_b23 : cc ≠ b23 := hcc.ne g24
  have n_e5_b23 : e5 ≠ b23 := a13.ne g24
  have n_e6_b23 : e6 ≠ b23 := a17.ne g24
  have g_oW_b23 : W.heap.size ≤ b23 := Nat.le_trans oW.size g24
  replace hN := hN.new o22 g24
  replace hul := hul.new o22 g24
  replace hfa := hfa.new o22 g24
  replace hb := hb.new o22 g24
  replace hca := hca.step0 o22
  replace hcb := hcb.step0 o22
  replace hcc := hcc.step0 o22
  replace a13 := a13.step0 o22
  replace a17 := a17.step0 o22
  replace oW := oW.tail0 o22
  refine wF ([(ptr L.bN 0), ub, (Value.func (.func 55) #[] #[(ptr ca 0), (ptr cb 0), (ptr cc 0)]), undef, undef, (ptr e5 0), (ptr e6 0), undef, undef, undef, ub, (eN bl.length), (ptr L.bN 0), (Value.agg #[(eN s.gD), (eN s.gB), (eN s.gP)]), (eN s.gD), vF, ub, (Value.func (.func 106) #[] #[(ptr b23 0)])] ++ (us 9)) ?_
  refine wD (tN (wB ?_))
  have h_lt_ca := hca.lt
  have h_lt_cb := hcb.lt
  have h_lt_cc := hcc.lt
  have h_lt_e5 := a13.lt
  have h_lt_e6 := a17.lt
  have h_lt_b23 := a25.lt
  have tq_oW := oW.size
  have nO_b23 : ¬ (Or1 e6 (Or1 e5 (Ors L.S No))) b23 := (not_or1 (Ne.symm n_e6_b23) (not_or1 (Ne.symm n_e5_b23) (not_ors (hN.dis _ in1) not_no)))
  obtain ⟨D_, hD_⟩ : ∃ D_, w21.heap.size = D_ := ⟨_, rfl⟩
  obtain ⟨L_, hL_⟩ : ∃ L_, w21.heap.size + 1 = L_ := ⟨_, rfl⟩
  refine range_ (encs := (fun k => [eN k.1, eI k.2])) (Pv := No) (O := (Or1 e6 (Or1 e5 (Ors L.S No)))) (xs := (plL bl)) (D := D_) (L := L_) (rs := []) hD_ hL_ rfl Try.func106 kr rfl (iter_placed bl ub b23 a25 nO_b23 hb (or1_skip (or1_mono (or1_mono (ors_mono no_any)))) fo) (fun k t => t.elim) (fun _ => rfl) (lt_or1 h_lt_e6 (lt_or1 h_lt_e5 (lt_ors hN.lt lt_no))) (fun (pre : List (Nat × Int)) (w_ : World) => (∀ j, j < pre.length → rowPC bl p pl s j = 0) ∧ Only (Or1 e6 (Or1 e5 (Ors L.S No))) w21 w_ ∧ Arr 88 ca [(Value.func (.func 53) #[(ptr L.bN 0)] #[])] w_ ∧ Arr 3 cb [(eI p)] w_ ∧ Arr 29 cc [ul] w_ ∧ Arr 90 e5 [(Value.func (.func 55) #[] #[(ptr ca 0), (ptr cb 0), (ptr cc 0)])] w_ ∧ Arr 45 e6 [(eN 0)] w_ ∧ Arr 23 b23 [ub] w_ ∧ Nd L (rowP bl p pl s pre.length) (Or1 L_ (Or1 D_ (Or1 b23 (Or1 e6 (Or1 e5 X))))) w_) (fun c_ (pre : List (Nat × Int)) (w_ : World) => c_ = Code.ret ∧ ((∀ j, j < pre.length - 1 → rowPC bl p pl s j = 0) ∧ (¬ rowPC bl p pl s (pre.length - 1) = 0) ∧ (0 < pre.length) ∧ Only (Or1 e6 (Or1 e5 (Ors L.S No))) w21 w_ ∧ Arr 88 ca [(Value.func (.func 53) #[(ptr L.bN 0)] #[])] w_ ∧ Arr 3 cb [(eI p)] w_ ∧ Arr 29 cc [ul] w_ ∧ Arr 90 e5 [(Value.func (.func 55) #[] #[(ptr ca 0), (ptr cb 0), (ptr cc 0)])] w_ ∧ Arr 45 e6 [(eN (rowPC bl p pl s (pre.length - 1)))] w_ ∧ Arr 23 b23 [ub] w_ ∧ Nd L (rowP bl p pl s pre.length) (Or1 L_ (Or1 D_ (Or1 b23 (Or1 e6 (Or1 e5 X))))) w_)) ?_ ?_ ?_ ?_ ?_ ?_
  ·
   rintro pre w_ w2_ ⟨hC, o26, hca, hcb, hcc, a13, a17, a25, hN⟩ ho_
   exact ⟨hC, o26.tail ho_ (stab_tl hD_ hL_ (fun k t => t.elim)), hca.step ho_ (stab_b hD_ hL_ h_lt_ca (fun t => t.elim)), hcb.step ho_ (stab_b hD_ hL_ h_lt_cb (fun t => t.elim)), hcc.step ho_ (stab_b hD_ hL_ h_lt_cc (fun t => t.elim)), a13.step ho_ (stab_b hD_ hL_ h_lt_e5 (fun t => t.elim)), a17.step ho_ (stab_b hD_ hL_ h_lt_e6 (fun t => t.elim)), a25.step ho_ (stab_b hD_ hL_ h_lt_b23 (fun t => t.elim)), hN.step ho_ (stab_p (fun k t => t.elim))⟩
  ·
   rintro c_ pre w_ w2_ ⟨hc_, ⟨hC2, hc2, hp2, o26, hca, hcb, hcc, a13, a17, a25, hN⟩⟩ ho_
   exact ⟨hc_, ⟨hC2, hc2, hp2, o26.tail ho_ (stab_tl hD_ hL_ (fun k t => t.elim)), hca.step ho_ (stab_b hD_ hL_ h_lt_ca (fun t => t.elim)), hcb.step ho_ (stab_b hD_ hL_ h_lt_cb (fun t => t.elim)), hcc.step ho_ (stab_b hD_ hL_ h_lt_cc (fun t => t.elim)), a13.step ho_ (stab_b hD_ hL_ h_lt_e5 (fun t => t.elim)), a17.step ho_ (stab_b hD_ hL_ h_lt_e6 (fun t => t.elim)), a25.step ho_ (stab_b hD_ hL_ h_lt_b23 (fun t => t.elim)), hN.step ho_ (stab_p (fun k t => t.elim))⟩⟩
  ·
   refine ⟨?_, ?_, ?_, ?_, ?_, ?_, ?_, ?_, ?_⟩
   ·
    exact fun j hj => absurd hj (Nat.not_lt_zero j)
   ·
    exact Only.refl _ _
   ·
    exact hca
   ·
    exact hcb
   ·
    exact hcc
   ·
    exact a13
   ·
    exact a17
   ·
    exact a25
   ·
    exact Nd.less (hN : Nd L (rowP bl p pl s 0) _ _) (xx_new oo (xx_new (Nat.le_of_eq hD_) xx_id))
  ·
   intro pre k w1_ hpx_ hI_ hL1_
   obtain ⟨hC, o26, hca, hcb, hcc, a13, a17, a25, hN⟩ := hI_
   replace hul := Ps.re (X' := (Or1 L_ (Or1 D_ (Or1 b23 (Or1 e6 (Or1 e5 (Ors L.S No))))))) hul o26 (or1_skip (or1_mono (or1_mono (ors_mono no_any)))) (xx_new oo (xx_new (Nat.le_of_eq hD_) (xx_or1 (xx_or1 (xx_or1 (xx_ors xx_id))))))
   replace hfa := Ps.re (X' := (Or1 L_ (Or1 D_ (Or1 b23 (Or1 e6 (Or1 e5 (Ors L.S No))))))) hfa o26 (or1_skip (or1_mono (or1_mono (ors_mono no_any)))) (xx_new oo (xx_new (Nat.le_of_eq hD_) (xx_or1 (xx_or1 (xx_or1 (xx_ors xx_id))))))
   replace hb := Ps.re (X' := (Or1 L_ (Or1 D_ (Or1 b23 (Or1 e6 (Or1 e5 (Ors L.S No))))))) hb o26 (or1_skip (or1_mono (or1_mono (ors_mono no_any)))) (xx_new oo (xx_new (Nat.le_of_eq hD_) (xx_or1 (xx_or1 (xx_or1 (xx_ors xx_id))))))
   replace oW := oW.tail o26 (tl_new g_oW_e6 (tl_new g_oW_e5 (tl_sin (fun k h => h) tl_no)))
   have n_ca_D_ : ca ≠ D_ := by omega
   have n_cb_D_ : cb ≠ D_ := by omega
   have n_cc_D_ : cc ≠ D_ := by omega
   have n_e5_D_ : e5 ≠ D_ := by omega
   have n_e6_D_ : e6 ≠ D_ := by omega
   have n_b23_D_ : b23 ≠ D_ := by omega
   have g_oW_D_ : W.heap.size ≤ D_ := by omega
   have g_o26_D_ : w21.heap.size ≤ D_ := by omega
   have n_ca_L_ : ca ≠ L_ := by omega
   have n_cb_L_ : cb ≠ L_ := by omega
   have n_cc_L_ : cc ≠ L_ := by omega
   have n_e5_L_ : e5 ≠ L_ := by omega
   have n_e6_L_ : e6 ≠ L_ := by omega
   have n_b23_L_ : b23 ≠ L_ := by omega
   have g_oW_L_ : W.heap.size ≤ L_ := by omega
   have g_o26_L_ : w21.heap.size ≤ L_ := by omega
   have n_D__L_ : D_ ≠ L_ := by omega
   have aL_ : Dead L_ w1_ := hL1_
   have aD_ : Dead D_ w1_ := by unfold Dead; omega
   refine wp_eq (l' := ([(ptr L.bN 0), ub, (Value.func (.func 55) #[] #[(ptr ca 0), (ptr cb 0), (ptr cc 0)]), undef, undef, (ptr e5 0), (ptr e6 0), undef, undef, undef, ub, (eN bl.length), (ptr L.bN 0), (Value.agg #[(eN s.gD), (eN s.gB), (eN s.gP)]), (eN s.gD), vF, ub, (Value.func (.func 106) #[] #[(ptr b23 0)]), (eN k.1), (eI k.2)] ++ (us 7))) kr ?_
   refine wQ (pL ?_)
   refine wI (d_assign rfl) ?_
   refine wD (tN (pL ?_))
   refine wI (d_assign rfl) ?_
   refine wD (tN ?_)
   refine ⟨Only.refl _ _, fun w2_ oL_ _ => ?_⟩
   replace hN := hN.stepb oL_ in1
   replace hul := hul.stepb oL_ in1
   replace hfa := hfa.stepb oL_ in1
   replace hb := hb.stepb oL_ in1
   replace hca := hca.step oL_ (fun e => absurd e n_ca_L_)
   replace hcb := hcb.step oL_ (fun e => absurd e n_cb_L_)
   replace hcc := hcc.step oL_ (fun e => absurd e n_cc_L_)
   replace a13 := a13.step oL_ (fun e => absurd e n_e5_L_)
   replace a17 := a17.step oL_ (fun e => absurd e n_e6_L_)
   replace a25 := a25.step oL_ (fun e => absurd e n_b23_L_)
   replace aD_ := aD_.step oL_ (fun e => absurd e n_D__L_)
   replace oW := oW.tailb oL_ g_oW_L_
   replace o26 := o26.tailb oL_ g_o26_L_
   replace aL_ : Dead L_ w2_ := Nat.lt_of_lt_of_le aL_ oL_.size
   have oR_ : Only (fun k => (Or1 e6 (Or1 e5 (Ors L.S No))) k ∨ L_ < k) w2_ w2_ := Only.refl _ _
   obtain ⟨k1_, k2_⟩ := k
   obtain ⟨hk1_, hk2_⟩ := pre_pl hpx_
   injection hk2_ with hk3_ hk4_
   subst hk3_ hk4_
   refine wp_eq (l' := ([(ptr L.bN 0), ub, (Value.func (.func 55) #[] #[(ptr ca 0), (ptr cb 0), (ptr cc 0)]), undef, undef, (ptr e5 0), (ptr e6 0), (eN pre.length), (eI (bl.getD pre.length 0)), undef, ub, (eN bl.length), (ptr L.bN 0), (Value.agg #[(eN s.gD), (eN s.gB), (eN s.gP)]), (eN s.gD), vF, ub, (Value.func (.func 106) #[] #[(ptr b23 0)]), (eN pre.length), (eI (bl.getD pre.length 0))] ++ (us 7))) rfl ?_
   refine wB (wQ ?_)
   refine wp_eq (l' := ([(ptr L.bN 0), ub, (Value.func (.func 55) #[] #[(ptr ca 0), (ptr cb 0), (ptr cc 0)]), undef, undef, (ptr e5 0), (ptr e6 0), (eN pre.length), (eI (bl.getD pre.length 0)), undef, ub, (eN bl.length), (ptr L.bN 0), (Value.agg #[(eN s.gD), (eN s.gB), (eN s.gP)]), (eN s.gD), vF, ub, (Value.func (.func 106) #[] #[(ptr b23 0)]), (eN pre.length), (eI (bl.getD pre.length 0))] ++ (us 7))) rfl ?_
   refine pL ?_
   refine wI (d_load (v := (Value.func (.func 55) #[] #[(ptr ca 0), (ptr cb 0), (ptr cc 0)])) ⟨_, Try.underlying90, rfl⟩ rfl a13 rfl) ?_
   refine wI (d_move rfl) ?_
   refine wI (d_move rfl) ?_
   refine wO (d_callv (xl := [.tmp 21, .tmp 22]) (al := [(eN pre.length), (eI (bl.getD pre.length 0))]) rfl Try.func55 kr rfl rfl rfl (write1_ok L (rowP bl p pl s pre.length) _ hN (lt_or1 aL_.lt (lt_or1 aD_.lt (lt_or1 a25.lt (lt_or1 a17.lt (lt_or1 a13.lt (fun k t => Nat.lt_of_lt_of_le (hX k t) oW.size)))))) pre.length n (bl.getD pre.length 0) p vs pl ul ca cb cc hca (in2 (in2 (in2 (in2 (in2 hX_ca))))) hcb (in2 (in2 (in2 (in2 (in2 hX_cb))))) hcc (in2 (in2 (in2 (in2 (in2 hX_cc))))) n_ca_cb n_ca_cc n_cb_cc (hul.less (os_of (sub2 (sub2 (sub2 (sub2 (sub2 sub1))))))) (hfa.less (os_of (sub2 (sub2 (sub2 (sub2 (sub2 sub1))))))) hvs gpl oo)) ?_
   rintro _ w27 ⟨rfl, a29, o28⟩
   replace hca := hca.step o28 (hN.dis _ (in2 (in2 (in2 (in2 (in2 hX_ca))))))
   replace hcb := hcb.step o28 (hN.dis _ (in2 (in2 (in2 (in2 (in2 hX_cb))))))
   replace hcc := hcc.step o28 (hN.dis _ (in2 (in2 (in2 (in2 (in2 hX_cc))))))
   replace a13 := a13.step o28 (hN.dis _ (in2 (in2 (in2 (in2 in1)))))
   replace a17 := a17.step o28 (hN.dis _ (in2 (in2 (in2 in1))))
   replace a25 := a25.step o28 (hN.dis _ (in2 (in2 in1)))
   replace aD_ := aD_.step o28 (hN.dis _ (in2 in1))
   replace aL_ := aL_.step o28 (hN.dis _ in1)
   replace hul := hul.step o28 (sub2 (sub2 (sub2 (sub2 (sub2 sub1)))))
   replace hfa := hfa.step o28 (sub2 (sub2 (sub2 (sub2 (sub2 sub1)))))
   replace hb := hb.step o28 (sub2 (sub2 (sub2 (sub2 (sub2 sub1)))))
   replace oW := oW.tail o28 (fun k _ e => (fun k h => h) k e)
   replace o26 := o26.tail o28 (fun k _ e => (sub2 (sub2 sub1)) k e)
   replace oR_ := oR_.tail o28 (fun k _ e => (fun k h => Or.inl ((sub2 (sub2 sub1)) k h)) k e)
   replace hN := a29
   refine wI (d_assign rfl) ?_
   refine wF [(ptr L.bN 0), ub, (Value.func (.func 55) #[] #[(ptr ca 0), (ptr cb 0), (ptr cc 0)]), undef, undef, (ptr e5 0), (ptr e6 0), (eN pre.length), (eI (bl.getD pre.length 0)), (eN ((rowP bl p pl s pre.length).progR (pre.length : Int) (bl.getD pre.length 0) p (pgE (pl pre.length)))), ub, (eN bl.length), (ptr L.bN 0), (Value.agg #[(eN s.gD), (eN s.gB), (eN s.gP)]), (eN s.gD), vF, ub, (Value.func (.func 106) #[] #[(ptr b23 0)]), (eN pre.length), (eI (bl.getD pre.length 0)), (Value.func (.func 55) #[] #[(ptr ca 0), (ptr cb 0), (ptr cc 0)]), (eN pre.length), (eI (bl.getD pre.length 0)), (eN ((rowP bl p pl s pre.length).progR (pre.length : Int) (bl.getD pre.length 0) p (pgE (pl pre.length)))), undef, undef, undef] ?_
   refine wD (tN (wQ (pL ?_)))
   refine wI (d_move rfl) ?_
   refine wI (n_neq (a := ((rowP bl p pl s pre.length).progR (pre.length : Int) (bl.getD pre.length 0) p (pgE (pl pre.length)))) (b := 0) rfl rfl rfl) ?_
   refine wF [(ptr L.bN 0), ub, (Value.func (.func 55) #[] #[(ptr ca 0), (ptr cb 0), (ptr cc 0)]), undef, undef, (ptr e5 0), (ptr e6 0), (eN pre.length), (eI (bl.getD pre.length 0)), (eN ((rowP bl p pl s pre.length).progR (pre.length : Int) (bl.getD pre.length 0) p (pgE (pl pre.length)))), ub, (eN bl.length), (ptr L.bN 0), (Value.agg #[(eN s.gD), (eN s.gB), (eN s.gP)]), (eN s.gD), vF, ub, (Value.func (.func 106) #[] #[(ptr b23 0)]), (eN pre.length), (eI (bl.getD pre.length 0)), (Value.func (.func 55) #[] #[(ptr ca 0), (ptr cb 0), (ptr cc 0)]), (eN pre.length), (eI (bl.getD pre.length 0)), (eN ((rowP bl p pl s pre.length).progR (pre.length : Int) (bl.getD pre.length 0) p (pgE (pl pre.length)))), (eN ((rowP bl p pl s pre.length).progR (pre.length : Int) (bl.getD pre.length 0) p (pgE (pl pre.length)))), (Value.bool (!decide (((rowP bl p pl s pre.length).progR (pre.length : Int) (bl.getD pre.length 0) p (pgE (pl pre.length))) = 0))), undef] ?_
   refine wD (tN ?_)
   refine cond_un rfl (fun ce_ => ?_) (fun ce_ => ?_)
   ·
    refine wQ (pL ?_)
    refine wI (d_move rfl) ?_
    refine wO (d_store s_ti45 rfl rfl rfl a17 (nb rfl) rfl) ?_
    rintro _ w30 ⟨a31, o32⟩
    replace hN := hN.stepb o32 (in2 (in2 (in2 in1)))
    replace hul := hul.stepb o32 (in2 (in2 (in2 in1)))
    replace hfa := hfa.stepb o32 (in2 (in2 (in2 in1)))
    replace hb := hb.stepb o32 (in2 (in2 (in2 in1)))
    replace hca := hca.step o32 (fun e => absurd e n_ca_e6)
    replace hcb := hcb.step o32 (fun e => absurd e n_cb_e6)
    replace hcc := hcc.step o32 (fun e => absurd e n_cc_e6)
    replace a13 := a13.step o32 (fun e => absurd e n_e5_e6)
    replace a25 := a25.step o32 (fun e => absurd e (Ne.symm n_e6_b23))
    replace aD_ := aD_.step o32 (fun e => absurd e (Ne.symm n_e6_D_))
    replace aL_ := aL_.step o32 (fun e => absurd e (Ne.symm n_e6_L_))
    replace oW := oW.tailb o32 g_oW_e6
    replace o26 := o26.tail o32 (fun k _ e => by have : k = e6 := e; rw [this]; exact in1)
    replace oR_ := oR_.tail o32 (fun k _ e => by have : k = e6 := e; rw [this]; exact (Or.inl in1))
    refine wF [(ptr L.bN 0), ub, (Value.func (.func 55) #[] #[(ptr ca 0), (ptr cb 0), (ptr cc 0)]), undef, undef, (ptr e5 0), (ptr e6 0), (eN pre.length), (eI (bl.getD pre.length 0)), (eN ((rowP bl p pl s pre.length).progR (pre.length : Int) (bl.getD pre.length 0) p (pgE (pl pre.length)))), ub, (eN bl.length), (ptr L.bN 0), (Value.agg #[(eN s.gD), (eN s.gB), (eN s.gP)]), (eN s.gD), vF, ub, (Value.func (.func 106) #[] #[(ptr b23 0)]), (eN pre.length), (eI (bl.getD pre.length 0)), (Value.func (.func 55) #[] #[(ptr ca 0), (ptr cb 0), (ptr cc 0)]), (eN pre.length), (eI (bl.getD pre.length 0)), (eN ((rowP bl p pl s pre.length).progR (pre.length : Int) (bl.getD pre.length 0) p (pgE (pl pre.length)))), (eN ((rowP bl p pl s pre.length).progR (pre.length : Int) (bl.getD pre.length 0) p (pgE (pl pre.length)))), (Value.bool (!decide (((rowP bl p pl s pre.length).progR (pre.length : Int) (bl.getD pre.length 0) p (pgE (pl pre.length))) = 0))), (eN ((rowP bl p pl s pre.length).progR (pre.length : Int) (bl.getD pre.length 0) p (pgE (pl pre.length))))] ?_
    refine wD (tN ?_)
    refine wpIn_ret ?_
    refine inb_r ?_
    refine ⟨oR_, rfl, ?_, ?_, ?_, ?_, ?_, ?_, ?_, ?_, ?_, ?_, ?_⟩
    ·
     (try dsimp only)
     all_goals (rw [List.length_append, List.length_singleton, Nat.add_sub_cancel]; exact hC)
    ·
     (try dsimp only)
     all_goals (rw [List.length_append, List.length_singleton, Nat.add_sub_cancel]; exact ce_)
    ·
     (try dsimp only)
     all_goals (rw [List.length_append, List.length_singleton]; omega)
    ·
     exact o26
    ·
     exact hca
    ·
     exact hcb
    ·
     exact hcc
    ·
     exact a13
    ·
     (try dsimp only)
     all_goals (rw [List.length_append, List.length_singleton, Nat.add_sub_cancel]; exact a31)
    ·
     exact a25
    ·
     (try dsimp only)
     all_goals (exact (by rw [List.length_append, List.length_singleton]; exact hN.less (xx_or1 (xx_or1 (xx_or1 (xx_or1 (xx_or1 xx_id)))))))
   refine wK ?_
   refine inb_n ?_
   refine ⟨oR_, ?_, ?_, ?_, ?_, ?_, ?_, ?_, ?_, ?_⟩
   ·
    (try dsimp only)
    all_goals (exact fun j hj => by rw [List.length_append, List.length_singleton] at hj; exact (Nat.lt_succ_iff_lt_or_eq.1 hj).elim (hC j) (fun e => by rw [e]; exact ce_))
   ·
    exact o26
   ·
    exact hca
   ·
    exact hcb
   ·
    exact hcc
   ·
    exact a13
   ·
    exact a17
   ·
    exact a25
   ·
    (try dsimp only)
    all_goals (exact (by rw [List.length_append, List.length_singleton]; exact hN.less (xx_or1 (xx_or1 (xx_or1 (xx_or1 (xx_or1 xx_id)))))))
  ·
   intro w1_ hI_ aD_
   obtain ⟨hC, o26, hca, hcb, hcc, a13, a17, a25, hN⟩ := hI_
   replace hN := hN.less (Y := (Or1 D_ (Or1 b23 (Or1 e6 (Or1 e5 X))))) (xx_skip xx_id)
   replace hul := Ps.re (X' := (Or1 D_ (Or1 b23 (Or1 e6 (Or1 e5 (Ors L.S No)))))) hul o26 (or1_skip (or1_mono (or1_mono (ors_mono no_any)))) (xx_new (Nat.le_of_eq hD_) (xx_or1 (xx_or1 (xx_or1 (xx_ors xx_id)))))
   replace hfa := Ps.re (X' := (Or1 D_ (Or1 b23 (Or1 e6 (Or1 e5 (Ors L.S No)))))) hfa o26 (or1_skip (or1_mono (or1_mono (ors_mono no_any)))) (xx_new (Nat.le_of_eq hD_) (xx_or1 (xx_or1 (xx_or1 (xx_ors xx_id)))))
   replace hb := Ps.re (X' := (Or1 D_ (Or1 b23 (Or1 e6 (Or1 e5 (Ors L.S No)))))) hb o26 (or1_skip (or1_mono (or1_mono (ors_mono no_any)))) (xx_new (Nat.le_of_eq hD_) (xx_or1 (xx_or1 (xx_or1 (xx_ors xx_id)))))
   replace oW := oW.tail o26 (tl_new g_oW_e6 (tl_new g_oW_e5 (tl_sin (fun k h => h) tl_no)))
   have n_ca_D_ : ca ≠ D_ := by omega
   have n_cb_D_ : cb ≠ D_ := by omega
   have n_cc_D_ : cc ≠ D_ := by omega
   have n_e5_D_ : e5 ≠ D_ := by omega
   have n_e6_D_ : e6 ≠ D_ := by omega
   have n_b23_D_ : b23 ≠ D_ := by omega
   have g_oW_D_ : W.heap.size ≤ D_ := by omega
   have g_o26_D_ : w21.heap.size ≤ D_ := by omega
   rw [plL_len] at hC
   replace hN := nd_to hN (show _ = (rowP bl p pl s bl.length) from by rw [plL_len])
   refine inb_n (tN ?_)
   refine wQ (pL ?_)
   refine wO (d_store s_ti45 rfl rfl rfl a17 (nb rfl) rfl) ?_
   rintro _ w33 ⟨a34, o35⟩
   replace hN := hN.stepb o35 (in2 (in2 in1))
   replace hul := hul.stepb o35 (in2 (in2 in1))
   replace hfa := hfa.stepb o35 (in2 (in2 in1))
   replace hb := hb.stepb o35 (in2 (in2 in1))
   replace hca := hca.step o35 (fun e => absurd e n_ca_e6)
   replace hcb := hcb.step o35 (fun e => absurd e n_cb_e6)
   replace hcc := hcc.step o35 (fun e => absurd e n_cc_e6)
   replace a13 := a13.step o35 (fun e => absurd e n_e5_e6)
   replace a25 := a25.step o35 (fun e => absurd e (Ne.symm n_e6_b23))
   replace aD_ := aD_.step o35 (fun e => absurd e (Ne.symm n_e6_D_))
   replace oW := oW.tailb o35 g_oW_e6
   replace o26 := o26.tail o35 (fun k _ e => by have : k = e6 := e; rw [this]; exact in1)
   refine wD (tN ?_)
   refine wpIn_ret ?_
   refine leave (v := (eN 0)) (marks_ok aD_) (fun w36 o37 => ⟨resS Try.results54 ⟨_, Try.underlying45, rfl⟩ rfl (a34.step (only_mem o37) (fun e => absurd e n_e6_D_)), ?_⟩)
   replace o37 := only_mem o37
   replace hN := hN.stepb o37 in1
   replace hul := hul.stepb o37 in1
   replace hfa := hfa.stepb o37 in1
   replace hb := hb.stepb o37 in1
   replace hca := hca.step o37 (fun e => absurd e n_ca_D_)
   replace hcb := hcb.step o37 (fun e => absurd e n_cb_D_)
   replace hcc := hcc.step o37 (fun e => absurd e n_cc_D_)
   replace a13 := a13.step o37 (fun e => absurd e n_e5_D_)
   replace a34 := a34.step o37 (fun e => absurd e n_e6_D_)
   replace a25 := a25.step o37 (fun e => absurd e n_b23_D_)
   replace oW := oW.tailb o37 g_oW_D_
   replace o26 := o26.tailb o37 g_o26_D_
   obtain ⟨e1_, e2_⟩ := do_all (T := rowP bl p pl s) (C := rowPC bl p pl s) k0 hC; exact ⟨congrArg eN e2_, e1_ ▸ (hN.less (xx_skip (xx_skip (xx_skip (xx_skip xx_id))))), oW⟩
  ·
   rintro c_ pre w1_ hpx_ ⟨rfl, ⟨hC2, hc2, hp2, o26, hca, hcb, hcc, a13, a17, a25, hN⟩⟩ aD_
   replace hN := hN.less (Y := (Or1 D_ (Or1 b23 (Or1 e6 (Or1 e5 X))))) (xx_skip xx_id)
   replace hul := Ps.re (X' := (Or1 D_ (Or1 b23 (Or1 e6 (Or1 e5 (Ors L.S No)))))) hul o26 (or1_skip (or1_mono (or1_mono (ors_mono no_any)))) (xx_new (Nat.le_of_eq hD_) (xx_or1 (xx_or1 (xx_or1 (xx_ors xx_id)))))
   replace hfa := Ps.re (X' := (Or1 D_ (Or1 b23 (Or1 e6 (Or1 e5 (Ors L.S No)))))) hfa o26 (or1_skip (or1_mono (or1_mono (ors_mono no_any)))) (xx_new (Nat.le_of_eq hD_) (xx_or1 (xx_or1 (xx_or1 (xx_ors xx_id)))))
   replace hb := Ps.re (X' := (Or1 D_ (Or1 b23 (Or1 e6 (Or1 e5 (Ors L.S No)))))) hb o26 (or1_skip (or1_mono (or1_mono (ors_mono no_any)))) (xx_new (Nat.le_of_eq hD_) (xx_or1 (xx_or1 (xx_or1 (xx_ors xx_id)))))
   replace oW := oW.tail o26 (tl_new g_oW_e6 (tl_new g_oW_e5 (tl_sin (fun k h => h) tl_no)))
   have n_ca_D_ : ca ≠ D_ := by omega
   have n_cb_D_ : cb ≠ D_ := by omega
   have n_cc_D_ : cc ≠ D_ := by omega
   have n_e5_D_ : e5 ≠ D_ := by omega
   have n_e6_D_ : e6 ≠ D_ := by omega
   have n_b23_D_ : b23 ≠ D_ := by omega
   have g_oW_D_ : W.heap.size ≤ D_ := by omega
   have g_o26_D_ : w21.heap.size ≤ D_ := by omega
   refine wpIn_ret ?_
   refine inb_r (then_r ?_)
   refine leave (v := (eN (rowPC bl p pl s (pre.length - 1)))) (marks_ok aD_) (fun w38 o39 => ⟨resS Try.results54 ⟨_, Try.underlying45, rfl⟩ rfl (a17.step (only_mem o39) (fun e => absurd e n_e6_D_)), ?_⟩)
   replace o39 := only_mem o39
   replace hN := hN.stepb o39 in1
   replace hul := hul.stepb o39 in1
   replace hfa := hfa.stepb o39 in1
   replace hb := hb.stepb o39 in1
   replace hca := hca.step o39 (fun e => absurd e n_ca_D_)
   replace hcb := hcb.step o39 (fun e => absurd e n_cb_D_)
   replace hcc := hcc.step o39 (fun e => absurd e n_cc_D_)
   replace a13 := a13.step o39 (fun e => absurd e n_e5_D_)
   replace a17 := a17.step o39 (fun e => absurd e n_e6_D_)
   replace a25 := a25.step o39 (fun e => absurd e n_b23_D_)
   replace oW := oW.tailb o39 g_oW_D_
   replace o26 := o26.tailb o39 g_o26_D_
   have e3_ : pre.length - 1 + 1 = pre.length := by omega
   have hpl_ := pl_len hpx_
   obtain ⟨e1_, e2_⟩ := do_one (T := rowP bl p pl s) (C := rowPC bl p pl s) k0 hC2 hc2 oo; rw [e3_] at e1_; exact ⟨congrArg eN e2_, e1_ ▸ (hN.less (xx_skip (xx_skip (xx_skip (xx_skip xx_id))))), oW⟩
 refine pL ?_
 refine wI (d_move rfl) ?_
 refine wI (d_lenS rfl Try.underlying23 rfl hb) ?_
 refine wI (d_move rfl) ?_
 refine wF ([(ptr L.bN 0), ub, (Value.func (.func 55) #[] #[(ptr ca 0), (ptr cb 0), (ptr cc 0)]), undef, undef, (ptr e5 0), (ptr e6 0), undef, undef, undef, ub, (eN bl.length), (ptr L.bN 0)] ++ (us 14)) ?_
 refine wO (d_call (xl := [.tmp 12]) (al := [(ptr L.bN 0)]) Try.func84 kr rfl rfl rfl (geometry_ok L s _ hN)) ?_
 rintro _ w40 ⟨rfl, o41⟩
 replace hN := hN.step0 o41
 replace hul := hul.step0 o41
 replace hfa := hfa.step0 o41
 replace hb := hb.step0 o41
 replace hca := hca.step0 o41
 replace hcb := hcb.step0 o41
 replace hcc := hcc.step0 o41
 replace a13 := a13.step0 o41
 replace a17 := a17.step0 o41
 replace oW := oW.tail0 o41
 refine wI (d_field (v := (eN s.gD)) Try.underlying49 rfl ⟨_, Try.underlying3, rfl⟩ rfl rfl) ?_
 refine wI (n_neq (a := bl.length) (b := s.gD) rfl rfl (by rw [decide_eq_false k0] <;> rfl)) ?_
 refine wD (tN ?_)
 refine cond_t rfl ?_
 refine wQ (pL ?_)
 refine wO (d_store s_ti45 rfl rfl rfl a17 (nb rfl) rfl) ?_
 rintro _ w42 ⟨a43, o44⟩
 replace hN := hN.stepb o44 in1
 replace hul := hul.stepb o44 in1
 replace hfa := hfa.stepb o44 in1
 replace hb := hb.stepb o44 in1
 replace hca := hca.step o44 (fun e => absurd e n_ca_e6)
 replace hcb := hcb.step o44 (fun e => absurd e n_cb_e6)
 replace hcc := hcc.step o44 (fun e => absurd e n_cc_e6)
 replace a13 := a13.step o44 (fun e => absurd e n_e5_e6)
 replace oW := oW.tailb o44 g_oW_e6
 refine wD (tN ?_)
 refine wpIn_ret ?_
 refine then_r ?_
 refine leave0 (v := (eN 1)) (resS Try.results54 ⟨_, Try.underlying45, rfl⟩ rfl a43) ?_
 obtain ⟨e1_, e2_⟩ := do_no (T := rowP bl p pl s) (C := rowPC bl p pl s) k0; exact ⟨congrArg eN e2_, e1_ ▸ (hN.less (xx_skip (xx_skip xx_id))), oW⟩
theorem rowWrite_ok (L : NL) (s : NS) {X : Nat → Prop} (W : World) (hN : Nd L s X W) (hX : ∀ k, X k → k < W.heap.size) (bl : List Int) (ub : Value) (hb : Ps (Ors L.S No) (Seq kI bl ub) W) (gb : bl.length ≤ 1000) (n : Nat) (p : Int) (vs : List Value) (pl : Nat → List UInt8) (ul : Value) (hul : Ps (Ors L.S No) (Seq (kS eV) vs ul) W) (hfa : Ps (Ors L.S No) (Fam kB n pl vs) W) (hvs : vs.length = n) (gpl : ∀ j, (pl j).length ≤ 1048576) :
    CW Try.prog 32 #[(ptr L.bN 0), ub, (eI p), ul] W (Rt (fun u w => u = eN (rowWC s bl p pl n) ∧ Nd L (rowWS s bl p pl n) X w ∧ Only L.S W w)) := by
 have oW : Only L.S W W := Only.refl _ _
 refine enter (al := [(ptr L.bN 0), ub, (eI p), ul]) (k := 17) (l := ([(ptr L.bN 0), ub, (eI p), ul] ++ (us 17))) Try.func32 rfl Try.ntmps32 rfl rfl ?_
 refine wQ (pL ?_)
 refine wO (d_box rfl rfl) ?_
 rintro _ w11 ⟨cb, rfl, g12, a13, o14⟩
 have g_oW_cb : W.heap.size ≤ cb := Nat.le_trans oW.size g12
 replace hN := hN.new o14 g12
 replace hb := hb.new o14 g12
 replace hul := hul.new o14 g12
 replace hfa := hfa.new o14 g12
 replace oW := oW.tail0 o14
 refine wO (d_box rfl (Seq.cells hul)) ?_
 rintro _ w15 ⟨cc, rfl, g16, a17, o18⟩
 have n_cb_cc : cb ≠ cc := a13.ne g16
 have g_oW_cc : W.heap.size ≤ cc := Nat.le_trans oW.size g16
 replace hN := hN.new o18 g16
 replace hb := hb.new o18 g16
 replace hul := hul.new o18 g16
 replace hfa := hfa.new o18 g16
 replace a13 := a13.step0 o18
 replace oW := oW.tail0 o18
 refine wI (d_assign rfl) ?_
 refine wD (tN (wQ (wQ ?_)))
 by_cases k0 : vs.length = bl.length
 ·
  refine pL ?_
  refine wI (d_load (v := ul) ⟨_, Try.underlying29, rfl⟩ rfl a17 rfl) ?_
  refine wI (d_lenS rfl Try.underlying29 rfl hul) ?_
  refine wF ([(ptr L.bN 0), ub, (eI p), ul, undef, undef, (ptr cb 0), (ptr cc 0), (eN 0), undef, ul, (eN vs.length)] ++ (us 9)) ?_
  refine wI (d_move rfl) ?_
  refine wI (d_lenS rfl Try.underlying23 rfl hb) ?_
  refine wI (n_neq (a := vs.length) (b := bl.length) rfl rfl (by rw [decide_eq_true k0] <;> rfl)) ?_
  refine wD (tN ?_)
  refine cond_f rfl ?_
  refine wK (tN ?_)
  refine forget (fun zf19 => ([(ptr L.bN 0), ub, (zf19 2), (zf19 3), (zf19 4), (zf19 5), (ptr cb 0), (ptr cc 0)] ++ (zs zf19 8 13))) kr (fun zf19 => ?_)
  refine wQ (pL ?_)
  refine wI (d_move rfl) ?_
  refine wI (d_funcB (yl := [.tmp 15]) (ys := [(ptr L.bN 0)]) rfl) ?_
  refine wO (d_alloc s_ti88 rfl) ?_
  rintro _ w20 ⟨ca, rfl, g21, a22, o23⟩
  have n_cb_ca : cb ≠ ca := a13.ne g21
  have n_cc_ca : cc ≠ ca := a17.ne g21
  have g_oW_ca : W.heap.size ≤ ca := Nat.le_trans oW.size g21
  replace hN := hN.new o23 g21
  replace hb := hb.new o23 g21
  replace hul := hul.new o23 g21
  replace hfa := hfa.new o23 g21
  replace a13 := a13.step0 o23
  replace a17 := a17.step0 o23
  replace oW := oW.tail0 o23
  refine wO (d_store s_ti88 rfl rfl rfl a22 (nb rfl) rfl) ?_
  rintro _ w24 ⟨a25, o26⟩
  replace hN := hN.stepb o26 in1
  replace hb := hb.stepb o26 in1
  replace hul := hul.stepb o26 in1
  replace hfa := hfa.stepb o26 in1
  replace a13 := a13.step o26 (fun e => absurd e n_cb_ca)
  replace a17 := a17.step o26 (fun e => absurd e n_cc_ca)
  replace oW := oW.tailb o26 g_oW_ca
  refine wD (tN (wQ (pL ?_)))
  refine wI (d_move rfl) ?_
  refine wF ([(ptr L.bN 0), ub, (zf19 2), (zf19 3), (zf19 4), (zf19 5), (ptr cb 0), (ptr cc 0), (zf19 8), (ptr ca 0)] ++ (zs zf19 10 5 ++ [(ptr L.bN 0), (Value.func (.func 53) #[(ptr L.bN 0)] #[]), (ptr L.bN 0), (zf19 18), (zf19 19), (zf19 20)])) ?_
  refine wI (d_move rfl) ?_
  refine wI (d_funcL (yl := [.tmp 9, .tmp 6, .tmp 7]) (ys := [(ptr ca 0), (ptr cb 0), (ptr cc 0)]) rfl) ?_
  refine wO (d_call (xl := [.tmp 17, .tmp 18, .tmp 19]) (al := [(ptr L.bN 0), ub, (Value.func (.func 55) #[] #[(ptr ca 0), (ptr cb 0), (ptr cc 0)])]) Try.func54 kr rfl rfl rfl (eachW_ok L s _ hN (lt_or1 a25.lt (lt_or1 a17.lt (lt_or1 a13.lt (fun k t => Nat.lt_of_lt_of_le (hX k t) oW.size)))) bl ub (hb.less (os_of (sub2 (sub2 (sub2 sub1))))) fo n oo p vs pl ul ca cb cc a25 in1 a13 (in2 (in2 in1)) a17 (in2 in1) (Ne.symm n_cb_ca) (Ne.symm n_cc_ca) n_cb_cc (hul.less (os_of (sub2 (sub2 (sub2 sub1))))) (hfa.less (os_of (sub2 (sub2 (sub2 sub1))))) hvs gpl)) ?_
  rintro _ w27 ⟨rfl, a29, o28⟩
  replace a13 := a13.step o28 (hN.dis _ (in2 (in2 in1)))
  replace a17 := a17.step o28 (hN.dis _ (in2 in1))
  replace a25 := a25.step o28 (hN.dis _ in1)
  replace hb := hb.step o28 (sub2 (sub2 (sub2 sub1)))
  replace hul := hul.step o28 (sub2 (sub2 (sub2 sub1)))
  replace hfa := hfa.step o28 (sub2 (sub2 (sub2 sub1)))
  replace oW := oW.tail o28 (fun k _ e => (fun k h => h) k e)
  replace hN := a29
  refine wI (d_assign rfl) ?_
  refine wD (tN ?_)
  refine forget (fun zf30 => (zs zf30 0 8 ++ [(eN (rowDoC s.gD bl.length (rowPC bl p pl s)))] ++ (zs zf30 9 12))) kr (fun zf30 => ?_)
  refine wpIn_ret ?_
  refine leave0 (v := (eN (rowDoC s.gD bl.length (rowPC bl p pl s)))) (res1 Try.results32 rfl) ?_
  rw [hvs] at k0
  exact ⟨congrArg eN (by unfold rowWC; rw [if_pos k0]), by unfold rowWS; rw [if_pos k0]; exact (hN.less (xx_skip (xx_skip (xx_skip xx_id)))), oW⟩
 refine pL ?_
 refine wI (d_load (v := ul) ⟨_, Try.underlying29, rfl⟩ rfl a17 rfl) ?_
 refine wI (d_lenS rfl Try.underlying29 rfl hul) ?_
 refine wF ([(ptr L.bN 0), ub, (eI p), ul, undef, undef, (ptr cb 0), (ptr cc 0), (eN 0), undef, ul, (eN vs.length)] ++ (us 9)) ?_
 refine wI (d_move rfl) ?_
 refine wI (d_lenS rfl Try.underlying23 rfl hb) ?_
 refine wI (n_neq (a := vs.length) (b := bl.length) rfl rfl (by rw [decide_eq_false k0] <;> rfl)) ?_
 refine wD (tN ?_)
 refine cond_t rfl ?_
 refine wQ (pL ?_)
 refine wI (d_assign rfl) ?_
 refine wD (tN ?_)
 refine forget (fun zf31 => (zs zf31 0 8 ++ [(eN 1)] ++ (zs zf31 9 12))) kr (fun zf31 => ?_)
 refine wpIn_ret ?_
 refine then_r ?_
 refine leave0 (v := (eN 1)) (res1 Try.results32 rfl) ?_
 rw [hvs] at k0
 exact ⟨congrArg eN (by unfold rowWC; rw [if_neg k0]), by unfold rowWS; rw [if_neg k0]; exact (hN.less (xx_skip (xx_skip xx_id))), oW⟩
theorem read1_ok (L : NL) (s : NS) {X : Nat → Prop} (W : World) (hN : Nd L s X W) (hX : ∀ k, X k → k < W.heap.size) (d : Nat) (b p : Int) (bo : Option Nat) (uo : Value) (xs : List (Nat × Value)) (cn cp : Nat) (hcn : Arr 44 cn [(ptr L.bN 0)] W) (hX_cn : X cn) (hcp : Arr 3 cp [(eI p)] W) (hX_cp : X cp) (n_cn_cp : cn ≠ cp) (oc : Nat) (hoc : Arr 53 oc [uo] W) (hX_oc : X oc) (hro : Ow 32 2 bo uo (xs).length ((xs).flatMap eG) W) (hXq : ∀ k, bo = some k → X k) (n_cn_oc : cn ≠ oc) (n_cp_oc : cp ≠ oc) (nq_out_cn : ∀ x, bo = some x → ¬ x = cn) (nq_out_cp : ∀ x, bo = some x → ¬ x = cp) (nq_out_oc : ∀ x, bo = some x → ¬ x = oc) (gx : xs.length ≤ 1000) :
    CW Try.prog 56 #[(eN d), (eI b), (ptr cn 0), (ptr cp 0), (ptr oc 0)] W (Rt (fun u w => ∃ bo' u' v, u = eN (s.askR (s.readOk (d : Int) b p)) ∧ Nd L (s.ask (s.readOk (d : Int) b p)) (Orq bo' X) w ∧ Arr 53 oc [u'] w ∧ Ow 32 2 bo' u' (xs ++ [((pgD (s.readL (d : Int) b p)).1, v)]).length ((xs ++ [((pgD (s.readL (d : Int) b p)).1, v)]).flatMap eG) w ∧ Ps (Orq bo' (Old W.heap.size)) (Seq kB (pgD (s.readL (d : Int) b p)).2 v) w ∧ Fr bo' bo W.heap.size ∧ Only (Or1 oc (Orq bo L.S)) W w)) := by
 have oW : Only (Or1 oc (Orq bo L.S)) W W := Only.refl _ _
 refine enter (al := [(eN d), (eI b), (ptr cn 0), (ptr cp 0), (ptr oc 0)]) (k := 19) (l := ([(eN d), (eI b), (ptr cn 0), (ptr cp 0), (ptr oc 0)] ++ (us 19))) Try.func56 rfl Try.ntmps56 rfl rfl ?_
 replace hN : Nd L s (Orq bo (Or1 oc X)) W := Nd.less hN (fun k _ t => t.elim (hXq k) (fun t => t.elim (fun e => e ▸ hX_oc) id))
 have q_oW_out : Fr bo bo W.heap.size := Fr.same
 refine wQ (pL ?_)
 refine wI (d_assign rfl) ?_
 refine wD (tN (wQ ?_))
 have rl_ := readL_le hN.ok (d : Int) b p
 refine pL ?_
 refine wI (d_load (v := (ptr L.bN 0)) ⟨_, Try.underlying44, rfl⟩ rfl hcn rfl) ?_
 refine wI (d_move rfl) ?_
 refine wI (d_move rfl) ?_
 refine wI (d_load (v := (eI p)) ⟨_, Try.underlying3, rfl⟩ rfl hcp rfl) ?_
 refine wF ([(eN d), (eI b), (ptr cn 0), (ptr cp 0), (ptr oc 0), undef, undef, (eN 0), undef, undef, undef, (ptr L.bN 0), (eN d), (eI b), (eI p)] ++ (us 9)) ?_
 refine wO (d_call (xl := [.tmp 11, .tmp 12, .tmp 13, .tmp 14]) (al := [(ptr L.bN 0), (eN d), (eI b), (eI p)]) Try.func57 kr rfl rfl rfl (read_ok L s _ hN (d : Int) b p (lt_orq hro.lts (lt_or1 hoc.lt (fun k t => Nat.lt_of_lt_of_le (hX k t) oW.size))))) ?_
 rintro _ w11 ⟨u13, rfl, f14, a15, o12⟩
 replace f14 := f14.less (Y := (Ors L.S (Orq bo (Or1 oc (Old W.heap.size))))) (ors_old hN.lt (orq_old hro.lts (or1_old hoc.lt (old_old oW.size))))
 replace hcn := hcn.step o12 (hN.dis _ (inq (in2 hX_cn)))
 replace hcp := hcp.step o12 (hN.dis _ (inq (in2 hX_cp)))
 replace hoc := hoc.step o12 (hN.dis _ (inq in1))
 replace hro := hro.step o12 (fun x hx => hN.dis x ((fun k e => (.inl e)) x hx))
 replace oW := oW.tail o12 (fun k _ e => (show ∀ k, L.S k → Or1 oc (Orq bo L.S) k from fun k h => .inr (.inr h)) k e)
 replace hN := a15
 refine wI (d_move rfl) ?_
 refine wI (d_extract (v := u13) rfl rfl) ?_
 refine wI (d_extract (v := (eN (s.askR (s.readOk (d : Int) b p)))) rfl rfl) ?_
 refine wI (d_assign rfl) ?_
 refine wF ([(eN d), (eI b), (ptr cn 0), (ptr cp 0), (ptr oc 0), undef, undef, (eN 0), u13, undef, (Value.tuple #[u13, (eN (s.askR (s.readOk (d : Int) b p)))]), (ptr L.bN 0), (eN d), (eI b), (eI p), (Value.tuple #[u13, (eN (s.askR (s.readOk (d : Int) b p)))]), u13, (eN (s.askR (s.readOk (d : Int) b p)))] ++ (us 6)) ?_
 refine wI (d_assign rfl) ?_
 refine wD (tN ?_)
 refine forget (fun zf16 => ([(zf16 0), (zf16 1), (zf16 2), (zf16 3), (ptr oc 0), (zf16 5), (zf16 6), (zf16 7), u13, (eN (s.askR (s.readOk (d : Int) b p)))] ++ (zs zf16 10 8 ++ (us 5 ++ [(zf16 23)])))) kr (fun zf16 => ?_)
 refine wQ ?_
 refine drawnG (O := (Ors L.S (Orq bo (Or1 oc No)))) (n := 6) 0 [0, 0, 2, 6, 15, 31] [(0, 18), (1, 19), (2, 20), (3, 21), (4, 22)] [] [] [] (fun i_ => ([] : List (RF (Ors L.S (Orq bo (Or1 oc No))))).getD i_ (RF.any (Ors L.S (Orq bo (Or1 oc No))))) (fun _ w_ => Arr 44 cn [(ptr L.bN 0)] w_ ∧ Arr 3 cp [(eI p)] w_ ∧ Arr 53 oc [uo] w_ ∧ Ow 32 2 bo uo (xs).length ((xs).flatMap eG) w_ ∧ Nd L (s.ask (s.readOk (d : Int) b p)) (Orq bo (Or1 oc X)) w_) (fun v17 => ([(zf16 0), (zf16 1), (zf16 2), (zf16 3), (ptr oc 0), (zf16 5), (zf16 6), (zf16 7), u13, (eN (s.askR (s.readOk (d : Int) b p)))] ++ (zs zf16 10 8 ++ [(v17 0), (v17 1), (v17 2), (v17 3), (v17 4), (zf16 23)]))) (fun v17 => ([(zf16 0), (zf16 1), (zf16 2), (zf16 3), (ptr oc 0), (zf16 5), (zf16 6), (zf16 7), u13, (eN (s.askR (s.readOk (d : Int) b p)))] ++ (zs zf16 10 8 ++ (us 5 ++ [(zf16 23)])))) s_mx kr rfl (by decide) (by rfl) kr kr kr (by rfl) (fun v_ => by kernel_rfl) (fun v_ => by kernel_rfl) (fun _ => fun w_ w2_ h ho => by obtain ⟨r_hcn, r_hcp, r_hoc, r_hro, r_hN⟩ := h; exact ⟨r_hcn.step0 ho, r_hcp.step0 ho, r_hoc.step0 ho, r_hro.step0 ho, r_hN.step0 ho⟩) ⟨hcn, hcp, hoc, hro, hN⟩ ?_ ?_ ?_
 ·
  exact ls_nil
 ·
  exact ms_nil
 intro v17 lo_ hi_ w18 o19 hd hR
 clear hd lo_ hi_
 replace f14 := f14.step o19 (ors_mono (orq_mono (or1_mono no_any)))
 obtain ⟨xr_hcn, xr_hcp, xr_hoc, xr_hro, xr_hN⟩ := hR
 replace hcn : Arr 44 cn [(ptr L.bN 0)] w18 := xr_hcn
 replace hcp : Arr 3 cp [(eI p)] w18 := xr_hcp
 replace hoc : Arr 53 oc [uo] w18 := xr_hoc
 replace hro : Ow 32 2 bo uo (xs).length ((xs).flatMap eG) w18 := xr_hro
 replace hN := xr_hN
 clear xr_hcn xr_hcp xr_hoc xr_hro xr_hN
 replace oW := oW.tail o19 (tl_sin (show ∀ k, L.S k → Or1 oc (Orq bo L.S) k from fun k h => .inr (.inr h)) (tl_q q_oW_out (fun k e => .inr (.inl e)) (tl_in (.inl rfl) tl_no)))
 refine rest_seg (n := 6) (p := 0) (q := 5) [0, 1] [2, 3, 4] [(0, 18), (1, 19)] [(0, 18), (1, 19), (2, 20), (3, 21), (4, 22)] [0, 0, 2, 6, 15, 31] (fun i_ => nth [uo, u13] i_) ([(zf16 0), (zf16 1), (zf16 2), (zf16 3), (ptr oc 0), (zf16 5), (zf16 6), (zf16 7), u13, (eN (s.askR (s.readOk (d : Int) b p)))] ++ (zs zf16 10 8 ++ [uo, u13, undef, undef, undef, (zf16 23)])) (fun w_ => Ps (Ors L.S (Or1 oc (Old W.heap.size))) (Seq kB (s.readL (d : Int) b p) u13) w_ ∧ Arr 44 cn [(ptr L.bN 0)] w_ ∧ Arr 3 cp [(eI p)] w_ ∧ Arr 53 oc [uo] w_ ∧ True) kr rfl (by decide) kr kr (by rfl) kr kr kr kr kr (by decide) ?_ ?_
 ·
  rintro w_ ⟨f14, hcn, hcp, hoc, _⟩
  refine fl_cons ⟨_, rfl, gd rfl (d_load (v := uo) ⟨_, Try.underlying53, rfl⟩ rfl hoc rfl)⟩ ?_
  refine fl_cons ⟨_, rfl, gd rfl (d_move rfl)⟩ ?_
  exact fl_nil
 refine wJ.op ⟨f14.less (xx_ors (xx_skip (xx_or1 xx_id))), hcn, hcp, hoc, trivial⟩ rfl rfl (d_call (xl := [.tmp 19]) (al := [u13]) Try.func21 kr rfl rfl rfl (pageDecode_ok (s.readL (d : Int) b p) u13 _ (Ps.no f14) fo)) ?_
 rintro _ w20 ⟨u22, rfl, f23, o21⟩
 replace f23 := f23.less (Y := (Ors L.S (Orq bo (Or1 oc (Old W.heap.size))))) (ors_old hN.lt (orq_old hro.lts (or1_old hoc.lt (old_old oW.size))))
 replace hN := hN.step0 o21
 replace f14 := f14.step0 o21
 replace hcn := hcn.step0 o21
 replace hcp := hcp.step0 o21
 replace hoc := hoc.step0 o21
 replace hro := hro.step0 o21
 replace oW := oW.tail0 o21
 refine wJ.flat ([(zf16 0), (zf16 1), (zf16 2), (zf16 3), (ptr oc 0), (zf16 5), (zf16 6), (zf16 7), u13, (eN (s.askR (s.readOk (d : Int) b p)))] ++ (zs zf16 10 8 ++ [uo, u13, (Value.agg #[(eN ((pgD (s.readL (d : Int) b p)).1)), u22]), undef, undef, (zf16 23)])) kr ?_
 refine wJ.op ⟨f14.less (xx_ors (xx_skip (xx_or1 xx_id))), hcn, hcp, hoc, trivial⟩ rfl rfl (d_buildL2 (zs := [(eN 0), (Value.slice none 0 0)]) (cs := [(eN ((pgD (s.readL (d : Int) b p)).1)), u22]) Try.underlying53 s_ti32 made_pg (nb rfl) (parts_cons (vs := [(eN ((pgD (s.readL (d : Int) b p)).1)), u22]) (cells_of (v := (Value.agg #[(eN ((pgD (s.readL (d : Int) b p)).1)), u22])) rfl rfl) parts_nil) rfl) ?_
 rintro _ w24 ⟨pb, rfl, g25, a26, o27⟩
 have n_cn_pb : cn ≠ pb := hcn.ne g25
 have n_cp_pb : cp ≠ pb := hcp.ne g25
 have n_oc_pb : oc ≠ pb := hoc.ne g25
 have nq_out_pb : ∀ x, bo = some x → ¬ x = pb := fun x hx e => by have := hro.lts x hx; omega
 have g_oW_pb : W.heap.size ≤ pb := Nat.le_trans oW.size g25
 replace hN := hN.new o27 g25
 replace f14 := f14.new o27 g25
 replace f23 := f23.new o27 g25
 replace hcn := hcn.step0 o27
 replace hcp := hcp.step0 o27
 replace hoc := hoc.step0 o27
 replace hro := hro.step0 o27
 replace oW := oW.tail0 o27
 refine wJ.flat ([(zf16 0), (zf16 1), (zf16 2), (zf16 3), (ptr oc 0), (zf16 5), (zf16 6), (zf16 7), u13, (eN (s.askR (s.readOk (d : Int) b p)))] ++ (zs zf16 10 8 ++ [uo, u13, (Value.agg #[(eN ((pgD (s.readL (d : Int) b p)).1)), u22]), (sli pb 0 1 1), undef, (zf16 23)])) kr ?_
 refine wJ.op ⟨f14.less (xx_skip (xx_ors (xx_skip (xx_or1 xx_id)))), hcn, hcp, hoc, trivial⟩ rfl rfl (d_append Try.underlying53 Try.underlying53 s_ti32 rfl rfl rfl hro (SrcV.of_arr (n := 1) (sz := 2) a26 rfl (one_eG (Seq.one f23))) oo oo rfl) ?_
 rintro u28 w29 ⟨bo30, a31, o32, q33⟩
 replace a31 : Ow 32 2 bo30 u28 (xs ++ [((pgD (s.readL (d : Int) b p)).1, u22)]).length ((xs ++ [((pgD (s.readL (d : Int) b p)).1, u22)]).flatMap eG) w29 := ow_appG (xs := xs) a31 rfl rfl
 replace hN := hN.gr o32 (fun k e => (.inr (.inl e))) (xx_or1 (xx_re (Fr.of_or q33) (xx_or1 xx_id)))
 replace f14 := f14.gr o32 (fun k e => (.inr (.inr (.inl e)))) (xx_or1 (xx_ors (xx_re (Fr.of_or q33) (xx_or1 xx_id))))
 replace f23 := f23.gr o32 (fun k e => (.inr (.inr (.inl e)))) (xx_or1 (xx_ors (xx_re (Fr.of_or q33) (xx_or1 xx_id))))
 have nq2 := nqs nq_out_cn (Fr.of_or q33) hcn.lt
 replace hcn := hcn.step o32 (fun e => nq_out_cn _ e rfl)
 replace nq_out_cn := nq2
 clear nq2
 have nq2 := nqs nq_out_cp (Fr.of_or q33) hcp.lt
 replace hcp := hcp.step o32 (fun e => nq_out_cp _ e rfl)
 replace nq_out_cp := nq2
 clear nq2
 have nq2 := nqs nq_out_oc (Fr.of_or q33) hoc.lt
 replace hoc := hoc.step o32 (fun e => nq_out_oc _ e rfl)
 replace nq_out_oc := nq2
 clear nq2
 have nq2 := nqs nq_out_pb (Fr.of_or q33) a26.lt
 replace a26 := a26.step o32 (fun e => nq_out_pb _ e rfl)
 replace nq_out_pb := nq2
 clear nq2
 have tq := oW.size
 replace oW := oW.tailr o32 q_oW_out (fun k e => .inr (.inl e))
 replace q_oW_out := qtr (Fr.of_or q33) q_oW_out tq
 clear tq
 refine wJ.flat ([(zf16 0), (zf16 1), (zf16 2), (zf16 3), (ptr oc 0), (zf16 5), (zf16 6), (zf16 7), u13, (eN (s.askR (s.readOk (d : Int) b p)))] ++ (zs zf16 10 8 ++ [uo, u13, (Value.agg #[(eN ((pgD (s.readL (d : Int) b p)).1)), u22]), (sli pb 0 1 1), u28, (zf16 23)])) kr ?_
 refine wJ.done ⟨f14.less (xx_skip (xx_ors (xx_skip (xx_or1 xx_id)))), hcn, hcp, hoc, trivial⟩ ?_
 refine rest_seg (n := 6) (p := 5) (q := 6) [] [5] [] [(0, 18), (1, 19), (2, 20), (3, 21), (4, 22)] [0, 0, 2, 6, 15, 31] (fun i_ => nth [] i_) ([(zf16 0), (zf16 1), (zf16 2), (zf16 3), (ptr oc 0), (zf16 5), (zf16 6), (zf16 7), u13, (eN (s.askR (s.readOk (d : Int) b p)))] ++ (zs zf16 10 8 ++ [uo, u13, (Value.agg #[(eN ((pgD (s.readL (d : Int) b p)).1)), u22]), (sli pb 0 1 1), u28, (zf16 23)])) (fun w_ => Ps (Or1 pb (Ors L.S (Or1 oc (Old W.heap.size)))) (Seq kB (s.readL (d : Int) b p) u13) w_ ∧ Ps (Or1 pb (Ors L.S (Or1 oc (Old W.heap.size)))) (Seq kB ((pgD (s.readL (d : Int) b p)).2) u22) w_ ∧ True) kr rfl (by decide) kr kr (by rfl) kr kr kr kr kr (by decide) ?_ ?_
 ·
  rintro w_ ⟨f14, f23, _⟩
  exact fl_nil
 refine wJ.op ⟨f14.less (xx_or1 (xx_ors (xx_skip (xx_or1 xx_id)))), f23.less (xx_or1 (xx_ors (xx_skip (xx_or1 xx_id)))), trivial⟩ rfl rfl (d_store s_ti53 rfl rfl (Ow.one a31) hoc (nb rfl) rfl) ?_
 rintro _ w34 ⟨a35, o36⟩
 replace hN := hN.stepb o36 (in2 (inq in1))
 replace f14 := f14.stepb o36 (in2 (inS (inq in1)))
 replace f23 := f23.stepb o36 (in2 (inS (inq in1)))
 replace hcn := hcn.step o36 (fun e => absurd e n_cn_oc)
 replace hcp := hcp.step o36 (fun e => absurd e n_cp_oc)
 replace a26 := a26.step o36 (fun e => absurd e (Ne.symm n_oc_pb))
 replace a31 := a31.step o36 (fun x hx e => nq_out_oc x hx e)
 replace oW := oW.tail o36 (fun k _ e => by have : k = oc := e; rw [this]; exact (.inl rfl))
 refine wJ.flat ([(zf16 0), (zf16 1), (zf16 2), (zf16 3), (ptr oc 0), (zf16 5), (zf16 6), (zf16 7), u13, (eN (s.askR (s.readOk (d : Int) b p)))] ++ (zs zf16 10 8 ++ [uo, u13, (Value.agg #[(eN ((pgD (s.readL (d : Int) b p)).1)), u22]), (sli pb 0 1 1), u28, (zf16 23)])) kr ?_
 refine wJ.done ⟨f14.less (xx_or1 (xx_ors (xx_skip (xx_or1 xx_id)))), f23.less (xx_or1 (xx_ors (xx_skip (xx_or1 xx_id)))), trivial⟩ ?_
 refine rest_done rfl ?_
 refine tN (wQ (pL ?_))
 refine wI (d_move rfl) ?_
 refine wI (d_assign rfl) ?_
 refine wD (tN ?_)
 refine forget (fun zf37 => (zs zf37 0 7 ++ [(eN (s.askR (s.readOk (d : Int) b p)))] ++ (zs zf37 8 16))) kr (fun zf37 => ?_)
 refine wpIn_ret ?_
 refine leave0 (v := (eN (s.askR (s.readOk (d : Int) b p)))) (res1 Try.results56 rfl) ?_
 exact ⟨_, _, u22, rfl, (hN.less (xx_skip (xx_orq (xx_skip xx_id)))), a35, a31, (f23.less (xx_skip (xx_skip (xx_orq (xx_skip xx_id))))), q_oW_out, oW⟩
theorem eachR_ok (L : NL) (s : NS) {X : Nat → Prop} (W : World) (hN : Nd L s X W) (hX : ∀ k, X k → k < W.heap.size) (bl : List Int) (ub : Value) (hb : Ps (Ors L.S No) (Seq kI bl ub) W) (gb : bl.length ≤ 1000) (p : Int) (bo : Option Nat) (uo : Value) (cn cp : Nat) (hcn : Arr 44 cn [(ptr L.bN 0)] W) (hX_cn : X cn) (hcp : Arr 3 cp [(eI p)] W) (hX_cp : X cp) (n_cn_cp : cn ≠ cp) (oc : Nat) (hoc : Arr 53 oc [uo] W) (hX_oc : X oc) (hro : Ow 32 2 bo uo (([] : List (Nat × Value))).length ((([] : List (Nat × Value))).flatMap eG) W) (hXq : ∀ k, bo = some k → X k) (n_cn_oc : cn ≠ oc) (n_cp_oc : cp ≠ oc) (nq_out_cn : ∀ x, bo = some x → ¬ x = cn) (nq_out_cp : ∀ x, bo = some x → ¬ x = cp) (nq_out_oc : ∀ x, bo = some x → ¬ x = oc) (hb2 : Ps (Ors L.S (Orq bo (Or1 oc No))) (Seq kI bl ub) W) :
    CW Try.prog 54 #[(ptr L.bN 0), ub, (Value.func (.func 56) #[] #[(ptr cn 0), (ptr cp 0), (ptr oc 0)])] W (Rt (fun u w => ∃ bo' u' vs, u = eN (rowDoC s.gD bl.length (rowRC bl p s)) ∧ Nd L (rowDo s.gD bl.length (rowR bl p s) (rowRC bl p s)) (Orq bo' X) w ∧ Arr 53 oc [u'] w ∧ Ow 32 2 bo' u' (pgRow (fun k_ => (pgD (rowRL bl p s k_)).1) vs).length ((pgRow (fun k_ => (pgD (rowRL bl p s k_)).1) vs).flatMap eG) w ∧ Ps (Orq bo' (Old W.heap.size)) (Fam kB vs.length (fun k_ => (pgD (rowRL bl p s k_)).2) vs) w ∧ (rowDoC s.gD bl.length (rowRC bl p s) = 0 → vs.length = bl.length) ∧ Fr bo' bo W.heap.size ∧ Only (Or1 oc (Orq bo L.S)) W w)) := by
 have oW : Only (Or1 oc (Orq bo L.S)) W W := Only.refl _ _
 refine enter (al := [(ptr L.bN 0), ub, (Value.func (.func 56) #[] #[(ptr cn 0), (ptr cp 0), (ptr oc 0)])]) (k := 24) (l := ([(ptr L.bN 0), ub, (Value.func (.func 56) #[] #[(ptr cn 0), (ptr cp 0), (ptr oc 0)])] ++ (us 24))) Try.func54 rfl Try.ntmps54 rfl rfl ?_
 replace hN : Nd L s (Orq bo (Or1 oc X)) W := Nd.less hN (fun k _ t => t.elim (hXq k) (fun t => t.elim (fun e => e ▸ hX_oc) id))
 have q_oW_out : Fr bo bo W.heap.size := Fr.same
 replace hb : Ps (Ors L.S (Orq bo (Or1 oc No))) (Seq kI bl ub) W := hb2
 refine wQ (pL ?_)
 refine wO (d_box rfl rfl) ?_
 rintro _ w11 ⟨e5, rfl, g12, a13, o14⟩
 have n_cn_e5 : cn ≠ e5 := hcn.ne g12
 have n_cp_e5 : cp ≠ e5 := hcp.ne g12
 have n_oc_e5 : oc ≠ e5 := hoc.ne g12
 have nq_out_e5 : ∀ x, bo = some x → ¬ x = e5 := fun x hx e => by have := hro.lts x hx; omega
 have g_oW_e5 : W.heap.size ≤ e5 := Nat.le_trans oW.size g12
 replace hN := hN.new o14 g12
 replace hb := hb.new o14 g12
 replace hcn := hcn.step0 o14
 replace hcp := hcp.step0 o14
 replace hoc := hoc.step0 o14
 replace hro := hro.step0 o14
 replace oW := oW.tail0 o14
 refine wO (d_alloc s_ti45 rfl) ?_
 rintro _ w15 ⟨e6, rfl, g16, a17, o18⟩
 have n_cn_e6 : cn ≠ e6 := hcn.ne g16
 have n_cp_e6 : cp ≠ e6 := hcp.ne g16
 have n_oc_e6 : oc ≠ e6 := hoc.ne g16
 have n_e5_e6 : e5 ≠ e6 := a13.ne g16
 have nq_out_e6 : ∀ x, bo = some x → ¬ x = e6 := fun x hx e => by have := hro.lts x hx; omega
 have g_oW_e6 : W.heap.size ≤ e6 := Nat.le_trans oW.size g16
 replace hN := hN.new o18 g16
 replace hb := hb.new o18 g16
 replace hcn := hcn.step0 o18
 replace hcp := hcp.step0 o18
 replace hoc := hoc.step0 o18
 replace a13 := a13.step0 o18
 replace hro := hro.step0 o18
 replace oW := oW.tail0 o18
 refine wD (tN (wQ (wQ ?_)))
 by_cases k0 : bl.length = s.gD
 ·
  refine pL ?_
  refine wI (d_move rfl) ?_
  refine wI (d_lenS rfl Try.underlying23 rfl hb) ?_
  refine wI (d_move rfl) ?_
  refine wF ([(ptr L.bN 0), ub, (Value.func (.func 56) #[] #[(ptr cn 0), (ptr cp 0), (ptr oc 0)]), undef, undef, (ptr e5 0), (ptr e6 0), undef, undef, undef, ub, (eN bl.length), (ptr L.bN 0)] ++ (us 14)) ?_
  refine wO (d_call (xl := [.tmp 12]) (al := [(ptr L.bN 0)]) Try.func84 kr rfl rfl rfl (geometry_ok L s _ hN)) ?_
  rintro _ w19 ⟨rfl, o20⟩
  replace hN := hN.step0 o20
  replace hb := hb.step0 o20
  replace hcn := hcn.step0 o20
  replace hcp := hcp.step0 o20
  replace hoc := hoc.step0 o20
  replace a13 := a13.step0 o20
  replace a17 := a17.step0 o20
  replace hro := hro.step0 o20
  replace oW := oW.tail0 o20
  refine wI (d_field (v := (eN s.gD)) Try.underlying49 rfl ⟨_, Try.underlying3, rfl⟩ rfl rfl) ?_
  refine wI (n_neq (a := bl.length) (b := s.gD) rfl rfl (by rw [decide_eq_true k0] <;> rfl)) ?_
  refine wD (tN ?_)
  refine cond_f rfl ?_
  refine wK (tN (wQ (wQ (pL ?_))))
  refine wI (d_move rfl) ?_
  refine wO (d_call (xl := [.tmp 16]) (al := [ub]) Try.func85 kr rfl rfl rfl (placed_ok bl ub _ (Ps.no hb))) ?_
  rintro _ w21 ⟨b23, rfl, g24, a25, o22⟩
  have n_cn_b23 : cn ≠ b23 := hcn.ne g24
  have n_cp_b23 : cp ≠ b23 := hcp.ne g24
  have n_oc_b23 : oc ≠ b23 := hoc.ne g24
  have n_e5_b23 : e5 ≠ b23 := a13.ne g24
  have n_e6_b23 : e6 ≠ b23 := a17.ne g24
  have nq_out_b23 : ∀ x, bo = some x → ¬ x = b23 := fun x hx e => by have := hro.lts x hx; omega
  have g_oW_b23 : W.heap.size ≤ b23 := Nat.le_trans oW.size g24
  replace hN := hN.new o22 g24
  replace hb := hb.new o22 g24
  replace hcn := hcn.step0 o22
  replace hcp := hcp.step0 o22
  replace hoc := hoc.step0 o22
  replace a13 := a13.step0 o22
  replace a17 := a17.step0 o22
  replace hro := hro.step0 o22
  replace oW := oW.tail0 o22
  refine wF ([(ptr L.bN 0), ub, (Value.func (.func 56) #[] #[(ptr cn 0), (ptr cp 0), (ptr oc 0)]), undef, undef, (ptr e5 0), (ptr e6 0), undef, undef, undef, ub, (eN bl.length), (ptr L.bN 0), (Value.agg #[(eN s.gD), (eN s.gB), (eN s.gP)]), (eN s.gD), vF, ub, (Value.func (.func 106) #[] #[(ptr b23 0)])] ++ (us 9)) ?_
  refine wD (tN (wB ?_))
  have h_lt_cn := hcn.lt
  have h_lt_cp := hcp.lt
  have h_lt_oc := hoc.lt
  have h_lt_e5 := a13.lt
  have h_lt_e6 := a17.lt
  have h_lt_b23 := a25.lt
  have h_lts_out := hro.lts
  have tq_oW := oW.size
  have nO_b23 : ¬ (Or1 e6 (Or1 e5 (Ors L.S (Orq bo (Or1 oc No))))) b23 := (not_or1 (Ne.symm n_e6_b23) (not_or1 (Ne.symm n_e5_b23) (not_ors (hN.dis _ in1) (not_orq (fun x hx e => nq_out_b23 x hx e) (not_or1 (Ne.symm n_oc_b23) not_no)))))
  obtain ⟨D_, hD_⟩ : ∃ D_, w21.heap.size = D_ := ⟨_, rfl⟩
  obtain ⟨L_, hL_⟩ : ∃ L_, w21.heap.size + 1 = L_ := ⟨_, rfl⟩
  refine range_ (encs := (fun k => [eN k.1, eI k.2])) (Pv := No) (O := (Or1 e6 (Or1 e5 (Ors L.S (Orq bo (Or1 oc No)))))) (xs := (plL bl)) (D := D_) (L := L_) (rs := []) hD_ hL_ rfl Try.func106 kr rfl (iter_placed bl ub b23 a25 nO_b23 hb (or1_skip (or1_mono (or1_mono (ors_mono (orq_mono (or1_mono no_any)))))) fo) (fun k t => t.elim) (fun _ => rfl) (lt_or1 h_lt_e6 (lt_or1 h_lt_e5 (lt_ors hN.lt (lt_orq h_lts_out (lt_or1 h_lt_oc lt_no))))) (fun (pre : List (Nat × Int)) (w_ : World) => ∃ (vs : List Value) (bo_out : Option Nat) (u_out : Value), (∀ j, j < pre.length → rowRC bl p s j = 0) ∧ (vs.length = pre.length) ∧ Only (Or1 e6 (Or1 e5 (Ors L.S (Orq bo (Or1 oc No))))) w21 w_ ∧ Arr 44 cn [(ptr L.bN 0)] w_ ∧ Arr 3 cp [(eI p)] w_ ∧ Arr 53 oc [u_out] w_ ∧ Arr 90 e5 [(Value.func (.func 56) #[] #[(ptr cn 0), (ptr cp 0), (ptr oc 0)])] w_ ∧ Arr 45 e6 [(eN 0)] w_ ∧ Arr 23 b23 [ub] w_ ∧ Ow 32 2 bo_out u_out (pgRow (fun k_ => (pgD (rowRL bl p s k_)).1) vs).length ((pgRow (fun k_ => (pgD (rowRL bl p s k_)).1) vs).flatMap eG) w_ ∧ Fr bo_out bo w21.heap.size ∧ (∀ x, bo_out = some x → ¬ x = D_) ∧ (∀ x, bo_out = some x → ¬ x = L_) ∧ Nd L (rowR bl p s pre.length) (Or1 L_ (Or1 D_ (Or1 b23 (Or1 e6 (Or1 e5 (Orq bo_out (Or1 oc X))))))) w_ ∧ Ps (Or1 L_ (Or1 D_ (Or1 b23 (Or1 e6 (Or1 e5 (Ors L.S (Orq bo_out (Or1 oc (Old W.heap.size))))))))) (Fam kB pre.length (fun k_ => (pgD (rowRL bl p s k_)).2) vs) w_) (fun c_ (pre : List (Nat × Int)) (w_ : World) => c_ = Code.ret ∧ (∃ (vs : List Value) (bo_out : Option Nat) (u_out : Value), (∀ j, j < pre.length - 1 → rowRC bl p s j = 0) ∧ (¬ rowRC bl p s (pre.length - 1) = 0) ∧ (0 < pre.length) ∧ (vs.length = pre.length) ∧ Only (Or1 e6 (Or1 e5 (Ors L.S (Orq bo (Or1 oc No))))) w21 w_ ∧ Arr 44 cn [(ptr L.bN 0)] w_ ∧ Arr 3 cp [(eI p)] w_ ∧ Arr 53 oc [u_out] w_ ∧ Arr 90 e5 [(Value.func (.func 56) #[] #[(ptr cn 0), (ptr cp 0), (ptr oc 0)])] w_ ∧ Arr 45 e6 [(eN (rowRC bl p s (pre.length - 1)))] w_ ∧ Arr 23 b23 [ub] w_ ∧ Ow 32 2 bo_out u_out (pgRow (fun k_ => (pgD (rowRL bl p s k_)).1) vs).length ((pgRow (fun k_ => (pgD (rowRL bl p s k_)).1) vs).flatMap eG) w_ ∧ Fr bo_out bo w21.heap.size ∧ (∀ x, bo_out = some x → ¬ x = D_) ∧ (∀ x, bo_out = some x → ¬ x = L_) ∧ Nd L (rowR bl p s pre.length) (Or1 L_ (Or1 D_ (Or1 b23 (Or1 e6 (Or1 e5 (Orq bo_out (Or1 oc X))))))) w_ ∧ Ps (Or1 L_ (Or1 D_ (Or1 b23 (Or1 e6 (Or1 e5 (Ors L.S (Orq bo_out (Or1 oc (Old W.heap.size))))))))) (Fam kB pre.length (fun k_ => (pgD (rowRL bl p s k_)).2) vs) w_)) ?_ ?_ ?_ ?_ ?_ ?_
  ·
   rintro pre w_ w2_ ⟨vs, bo_out, u_out, hC, hvl, o26, hcn, hcp, hoc, a13, a17, a25, hro, qq_out, nq_out_D_, nq_out_L_, hN, hFam⟩ ho_
   exact ⟨vs, bo_out, u_out, hC, hvl, o26.tail ho_ (stab_tl hD_ hL_ (fun k t => t.elim)), hcn.step ho_ (stab_b hD_ hL_ h_lt_cn (fun t => t.elim)), hcp.step ho_ (stab_b hD_ hL_ h_lt_cp (fun t => t.elim)), hoc.step ho_ (stab_b hD_ hL_ h_lt_oc (fun t => t.elim)), a13.step ho_ (stab_b hD_ hL_ h_lt_e5 (fun t => t.elim)), a17.step ho_ (stab_b hD_ hL_ h_lt_e6 (fun t => t.elim)), a25.step ho_ (stab_b hD_ hL_ h_lt_b23 (fun t => t.elim)), hro.step ho_ (stab_q nq_out_D_ nq_out_L_ (fun b hb t => t.elim)), qq_out, nq_out_D_, nq_out_L_, hN.step ho_ (stab_p (fun k t => t.elim)), hFam.step ho_ (stab_p (fun k t => t.elim))⟩
  ·
   rintro c_ pre w_ w2_ ⟨hc_, ⟨vs, bo_out, u_out, hC2, hc2, hp2, hvl, o26, hcn, hcp, hoc, a13, a17, a25, hro, qq_out, nq_out_D_, nq_out_L_, hN, hFam⟩⟩ ho_
   exact ⟨hc_, ⟨vs, bo_out, u_out, hC2, hc2, hp2, hvl, o26.tail ho_ (stab_tl hD_ hL_ (fun k t => t.elim)), hcn.step ho_ (stab_b hD_ hL_ h_lt_cn (fun t => t.elim)), hcp.step ho_ (stab_b hD_ hL_ h_lt_cp (fun t => t.elim)), hoc.step ho_ (stab_b hD_ hL_ h_lt_oc (fun t => t.elim)), a13.step ho_ (stab_b hD_ hL_ h_lt_e5 (fun t => t.elim)), a17.step ho_ (stab_b hD_ hL_ h_lt_e6 (fun t => t.elim)), a25.step ho_ (stab_b hD_ hL_ h_lt_b23 (fun t => t.elim)), hro.step ho_ (stab_q nq_out_D_ nq_out_L_ (fun b hb t => t.elim)), qq_out, nq_out_D_, nq_out_L_, hN.step ho_ (stab_p (fun k t => t.elim)), hFam.step ho_ (stab_p (fun k t => t.elim))⟩⟩
  ·
   refine ⟨[], bo, uo, ?_, ?_, ?_, ?_, ?_, ?_, ?_, ?_, ?_, ?_, ?_, ?_, ?_, ?_, ?_⟩
   ·
    exact fun j hj => absurd hj (Nat.not_lt_zero j)
   ·
    exact rfl
   ·
    exact Only.refl _ _
   ·
    exact hcn
   ·
    exact hcp
   ·
    exact hoc
   ·
    exact a13
   ·
    exact a17
   ·
    exact a25
   ·
    exact hro
   ·
    exact Fr.same
   ·
    (try dsimp only)
    all_goals (exact fun x hx e => by have := h_lts_out x hx; omega)
   ·
    (try dsimp only)
    all_goals (exact fun x hx e => by have := h_lts_out x hx; omega)
   ·
    exact Nd.less (hN : Nd L (rowR bl p s 0) _ _) (xx_new oo (xx_new (Nat.le_of_eq hD_) xx_id))
   ·
    exact fam_zero
  ·
   intro pre k w1_ hpx_ hI_ hL1_
   obtain ⟨vs, bo_out, u_out, hC, hvl, o26, hcn, hcp, hoc, a13, a17, a25, hro, qq_out, nq_out_D_, nq_out_L_, hN, hFam⟩ := hI_
   replace hb := Ps.re (X' := (Or1 L_ (Or1 D_ (Or1 b23 (Or1 e6 (Or1 e5 (Ors L.S (Orq bo_out (Or1 oc No))))))))) hb o26 (or1_skip (or1_mono (or1_mono (ors_mono (orq_mono (or1_mono no_any)))))) (xx_new oo (xx_new (Nat.le_of_eq hD_) (xx_or1 (xx_or1 (xx_or1 (xx_ors (xx_re qq_out (xx_or1 xx_id))))))))
   replace oW := oW.tail o26 (tl_new g_oW_e6 (tl_new g_oW_e5 (tl_sin (show ∀ k, L.S k → Or1 oc (Orq bo L.S) k from fun k h => .inr (.inr h)) (tl_q q_oW_out (fun k e => .inr (.inl e)) (tl_in (.inl rfl) tl_no)))))
   replace q_oW_out := qtr qq_out q_oW_out tq_oW
   replace nq_out_cn := nqs nq_out_cn qq_out h_lt_cn
   replace nq_out_cp := nqs nq_out_cp qq_out h_lt_cp
   replace nq_out_oc := nqs nq_out_oc qq_out h_lt_oc
   replace nq_out_e5 := nqs nq_out_e5 qq_out h_lt_e5
   replace nq_out_e6 := nqs nq_out_e6 qq_out h_lt_e6
   replace nq_out_b23 := nqs nq_out_b23 qq_out h_lt_b23
   have q_o26_out : Fr bo_out bo w21.heap.size := qq_out
   have n_cn_D_ : cn ≠ D_ := by omega
   have n_cp_D_ : cp ≠ D_ := by omega
   have n_oc_D_ : oc ≠ D_ := by omega
   have n_e5_D_ : e5 ≠ D_ := by omega
   have n_e6_D_ : e6 ≠ D_ := by omega
   have n_b23_D_ : b23 ≠ D_ := by omega
   have g_oW_D_ : W.heap.size ≤ D_ := by omega
   have g_o26_D_ : w21.heap.size ≤ D_ := by omega
   have n_cn_L_ : cn ≠ L_ := by omega
   have n_cp_L_ : cp ≠ L_ := by omega
   have n_oc_L_ : oc ≠ L_ := by omega
   have n_e5_L_ : e5 ≠ L_ := by omega
   have n_e6_L_ : e6 ≠ L_ := by omega
   have n_b23_L_ : b23 ≠ L_ := by omega
   have g_oW_L_ : W.heap.size ≤ L_ := by omega
   have g_o26_L_ : w21.heap.size ≤ L_ := by omega
   have n_D__L_ : D_ ≠ L_ := by omega
   have aL_ : Dead L_ w1_ := hL1_
   have aD_ : Dead D_ w1_ := by unfold Dead; omega
   refine wp_eq (l' := ([(ptr L.bN 0), ub, (Value.func (.func 56) #[] #[(ptr cn 0), (ptr cp 0), (ptr oc 0)]), undef, undef, (ptr e5 0), (ptr e6 0), undef, undef, undef, ub, (eN bl.length), (ptr L.bN 0), (Value.agg #[(eN s.gD), (eN s.gB), (eN s.gP)]), (eN s.gD), vF, ub, (Value.func (.func 106) #[] #[(ptr b23 0)]), (eN k.1), (eI k.2)] ++ (us 7))) kr ?_
   refine wQ (pL ?_)
   refine wI (d_assign rfl) ?_
   refine wD (tN (pL ?_))
   refine wI (d_assign rfl) ?_
   refine wD (tN ?_)
   refine ⟨Only.refl _ _, fun w2_ oL_ _ => ?_⟩
   replace hN := hN.stepb oL_ in1
   replace hb := hb.stepb oL_ in1
   replace hFam := hFam.stepb oL_ in1
   replace hcn := hcn.step oL_ (fun e => absurd e n_cn_L_)
   replace hcp := hcp.step oL_ (fun e => absurd e n_cp_L_)
   replace hoc := hoc.step oL_ (fun e => absurd e n_oc_L_)
   replace a13 := a13.step oL_ (fun e => absurd e n_e5_L_)
   replace a17 := a17.step oL_ (fun e => absurd e n_e6_L_)
   replace a25 := a25.step oL_ (fun e => absurd e n_b23_L_)
   replace aD_ := aD_.step oL_ (fun e => absurd e n_D__L_)
   replace hro := hro.step oL_ (fun x hx e => nq_out_L_ x hx e)
   replace oW := oW.tailb oL_ g_oW_L_
   replace o26 := o26.tailb oL_ g_o26_L_
   replace aL_ : Dead L_ w2_ := Nat.lt_of_lt_of_le aL_ oL_.size
   have oR_ : Only (fun k => (Or1 e6 (Or1 e5 (Ors L.S (Orq bo (Or1 oc No))))) k ∨ L_ < k) w2_ w2_ := Only.refl _ _
   have nqD0_out := nq_out_D_
   have nqL0_out := nq_out_L_
   have q_oR__out : Fr bo_out bo_out w2_.heap.size := Fr.same
   obtain ⟨k1_, k2_⟩ := k
   obtain ⟨hk1_, hk2_⟩ := pre_pl hpx_
   injection hk2_ with hk3_ hk4_
   subst hk3_ hk4_
   refine wp_eq (l' := ([(ptr L.bN 0), ub, (Value.func (.func 56) #[] #[(ptr cn 0), (ptr cp 0), (ptr oc 0)]), undef, undef, (ptr e5 0), (ptr e6 0), (eN pre.length), (eI (bl.getD pre.length 0)), undef, ub, (eN bl.length), (ptr L.bN 0), (Value.agg #[(eN s.gD), (eN s.gB), (eN s.gP)]), (eN s.gD), vF, ub, (Value.func (.func 106) #[] #[(ptr b23 0)]), (eN pre.length), (eI (bl.getD pre.length 0))] ++ (us 7))) rfl ?_
   refine wB (wQ ?_)
   refine wp_eq (l' := ([(ptr L.bN 0), ub, (Value.func (.func 56) #[] #[(ptr cn 0), (ptr cp 0), (ptr oc 0)]), undef, undef, (ptr e5 0), (ptr e6 0), (eN pre.length), (eI (bl.getD pre.length 0)), undef, ub, (eN bl.length), (ptr L.bN 0), (Value.agg #[(eN s.gD), (eN s.gB), (eN s.gP)]), (eN s.gD), vF, ub, (Value.func (.func 106) #[] #[(ptr b23 0)]), (eN pre.length), (eI (bl.getD pre.length 0))] ++ (us 7))) rfl ?_
   refine pL ?_
   refine wI (d_load (v := (Value.func (.func 56) #[] #[(ptr cn 0), (ptr cp 0), (ptr oc 0)])) ⟨_, Try.underlying90, rfl⟩ rfl a13 rfl) ?_
   refine wI (d_move rfl) ?_
   refine wI (d_move rfl) ?_
   refine wO (d_callv (xl := [.tmp 21, .tmp 22]) (al := [(eN pre.length), (eI (bl.getD pre.length 0))]) rfl Try.func56 kr rfl rfl rfl (read1_ok L (rowR bl p s pre.length) _ hN (lt_or1 aL_.lt (lt_or1 aD_.lt (lt_or1 a25.lt (lt_or1 a17.lt (lt_or1 a13.lt (lt_orq hro.lts (lt_or1 hoc.lt (fun k t => Nat.lt_of_lt_of_le (hX k t) oW.size)))))))) pre.length (bl.getD pre.length 0) p bo_out u_out (pgRow (fun k_ => (pgD (rowRL bl p s k_)).1) vs) cn cp hcn (in2 (in2 (in2 (in2 (in2 (inq (in2 hX_cn))))))) hcp (in2 (in2 (in2 (in2 (in2 (inq (in2 hX_cp))))))) n_cn_cp oc hoc (in2 (in2 (in2 (in2 (in2 (inq in1)))))) hro (fun k e => (.inr (.inr (.inr (.inr (.inr (.inl e))))))) n_cn_oc n_cp_oc nq_out_cn nq_out_cp nq_out_oc (by have := pgRow_len (fun k_ => (pgD (rowRL bl p s k_)).1) vs; omega))) ?_
   rintro _ w27 ⟨bo29, u30, v31, rfl, a32, a33, a34, f35, q36, o37⟩
   replace f35 := f35.less (Y := (Or1 L_ (Or1 D_ (Or1 b23 (Or1 e6 (Or1 e5 (Ors L.S (Orq bo29 (Or1 oc (Old W.heap.size)))))))))) (yz_or1 aL_.lt (yz_or1 aD_.lt (yz_or1 a25.lt (yz_or1 a17.lt (yz_or1 a13.lt (yz_ors hN.lt (yz_q (yz_or1 hoc.lt (fun k _ t => Or.inr (Nat.lt_of_lt_of_le t oW.size))))))))))
   replace a32 := a32.less (Y := (Or1 L_ (Or1 D_ (Or1 b23 (Or1 e6 (Or1 e5 (Orq bo29 (Or1 oc X)))))))) (yy_or1 (yy_or1 (yy_or1 (yy_or1 (yy_or1 (yy_q (yy_or1 yy_id)))))))
   replace hb := Ps.re (X' := (Or1 L_ (Or1 D_ (Or1 b23 (Or1 e6 (Or1 e5 (Ors L.S (Orq bo29 (Or1 oc No))))))))) hb o37 (fun k t_ => t_.elim (fun e_ => by rw [e_]; exact (in2 (in2 (in2 (in2 (in2 (inS (inq in1)))))))) (fun t_ => t_.elim ((fun k e => (.inr (.inr (.inr (.inr (.inr (.inr (.inl e)))))))) k) ((sub2 (sub2 (sub2 (sub2 (sub2 sub1))))) k))) (xx_or1 (xx_or1 (xx_or1 (xx_or1 (xx_or1 (xx_ors (xx_re q36 (xx_or1 xx_id))))))))
   replace hFam := Ps.re (X' := (Or1 L_ (Or1 D_ (Or1 b23 (Or1 e6 (Or1 e5 (Ors L.S (Orq bo29 (Or1 oc (Old W.heap.size)))))))))) hFam o37 (fun k t_ => t_.elim (fun e_ => by rw [e_]; exact (in2 (in2 (in2 (in2 (in2 (inS (inq in1)))))))) (fun t_ => t_.elim ((fun k e => (.inr (.inr (.inr (.inr (.inr (.inr (.inl e)))))))) k) ((sub2 (sub2 (sub2 (sub2 (sub2 sub1))))) k))) (xx_or1 (xx_or1 (xx_or1 (xx_or1 (xx_or1 (xx_ors (xx_re q36 (xx_or1 xx_id))))))))
   have nq2 := nqs nq_out_cn q36 hcn.lt
   replace hcn := hcn.step o37 (fun t_ => t_.elim (fun e_ => absurd e_ n_cn_oc) (fun t_ => t_.elim (fun e_ => nq_out_cn _ e_ rfl) (hN.dis _ (in2 (in2 (in2 (in2 (in2 (inq (in2 hX_cn))))))))))
   replace nq_out_cn := nq2
   clear nq2
   have nq2 := nqs nq_out_cp q36 hcp.lt
   replace hcp := hcp.step o37 (fun t_ => t_.elim (fun e_ => absurd e_ n_cp_oc) (fun t_ => t_.elim (fun e_ => nq_out_cp _ e_ rfl) (hN.dis _ (in2 (in2 (in2 (in2 (in2 (inq (in2 hX_cp))))))))))
   replace nq_out_cp := nq2
   clear nq2
   have nq2 := nqs nq_out_oc q36 hoc.lt
   replace hoc := a33
   replace nq_out_oc := nq2
   clear nq2
   have nq2 := nqs nq_out_e5 q36 a13.lt
   replace a13 := a13.step o37 (fun t_ => t_.elim (fun e_ => absurd e_ (Ne.symm n_oc_e5)) (fun t_ => t_.elim (fun e_ => nq_out_e5 _ e_ rfl) (hN.dis _ (in2 (in2 (in2 (in2 in1)))))))
   replace nq_out_e5 := nq2
   clear nq2
   have nq2 := nqs nq_out_e6 q36 a17.lt
   replace a17 := a17.step o37 (fun t_ => t_.elim (fun e_ => absurd e_ (Ne.symm n_oc_e6)) (fun t_ => t_.elim (fun e_ => nq_out_e6 _ e_ rfl) (hN.dis _ (in2 (in2 (in2 in1))))))
   replace nq_out_e6 := nq2
   clear nq2
   have nq2 := nqs nq_out_b23 q36 a25.lt
   replace a25 := a25.step o37 (fun t_ => t_.elim (fun e_ => absurd e_ (Ne.symm n_oc_b23)) (fun t_ => t_.elim (fun e_ => nq_out_b23 _ e_ rfl) (hN.dis _ (in2 (in2 in1)))))
   replace nq_out_b23 := nq2
   clear nq2
   have nq2 := nqs nq_out_D_ q36 aD_.lt
   replace aD_ := aD_.step o37 (fun t_ => t_.elim (fun e_ => absurd e_ (Ne.symm n_oc_D_)) (fun t_ => t_.elim (fun e_ => nq_out_D_ _ e_ rfl) (hN.dis _ (in2 in1))))
   replace nq_out_D_ := nq2
   clear nq2
   have nq2 := nqs nq_out_L_ q36 aL_.lt
   replace aL_ := aL_.step o37 (fun t_ => t_.elim (fun e_ => absurd e_ (Ne.symm n_oc_L_)) (fun t_ => t_.elim (fun e_ => nq_out_L_ _ e_ rfl) (hN.dis _ in1)))
   replace nq_out_L_ := nq2
   clear nq2
   have tq := oW.size
   replace oW := oW.tail o37 (tl_in (.inl rfl) (tl_q q_oW_out (fun k e => .inr (.inl e)) (fun k _ e => (show ∀ k, L.S k → Or1 oc (Orq bo L.S) k from fun k h => .inr (.inr h)) k e)))
   replace q_oW_out := qtr q36 q_oW_out tq
   clear tq
   have tq := o26.size
   replace o26 := o26.tail o37 (tl_in (in2 (in2 (inS (inq in1)))) (tl_q q_o26_out (fun k e => (.inr (.inr (.inr (.inl e))))) (fun k _ e => (sub2 (sub2 sub1)) k e)))
   replace q_o26_out := qtr q36 q_o26_out tq
   clear tq
   have tq := oR_.size
   replace oR_ := oR_.tail o37 (tl_in (Or.inl (in2 (in2 (inS (inq in1))))) (tl_q q_oR__out (q_T qq_out (fun k e => (.inr (.inr (.inr (.inl e))))) nqD0_out nqL0_out hD_ hL_) (fun k _ e => (fun k h => Or.inl ((sub2 (sub2 sub1)) k h)) k e)))
   replace q_oR__out := qtr q36 q_oR__out tq
   clear tq
   replace hN := a32
   refine wI (d_assign rfl) ?_
   refine wF [(ptr L.bN 0), ub, (Value.func (.func 56) #[] #[(ptr cn 0), (ptr cp 0), (ptr oc 0)]), undef, undef, (ptr e5 0), (ptr e6 0), (eN pre.length), (eI (bl.getD pre.length 0)), (eN ((rowR bl p s pre.length).askR ((rowR bl p s pre.length).readOk (pre.length : Int) (bl.getD pre.length 0) p))), ub, (eN bl.length), (ptr L.bN 0), (Value.agg #[(eN s.gD), (eN s.gB), (eN s.gP)]), (eN s.gD), vF, ub, (Value.func (.func 106) #[] #[(ptr b23 0)]), (eN pre.length), (eI (bl.getD pre.length 0)), (Value.func (.func 56) #[] #[(ptr cn 0), (ptr cp 0), (ptr oc 0)]), (eN pre.length), (eI (bl.getD pre.length 0)), (eN ((rowR bl p s pre.length).askR ((rowR bl p s pre.length).readOk (pre.length : Int) (bl.getD pre.length 0) p))), undef, undef, undef] ?_
   refine wD (tN (wQ (pL ?_)))
   refine wI (d_move rfl) ?_
   refine wI (n_neq (a := ((rowR bl p s pre.length).askR ((rowR bl p s pre.length).readOk (pre.length : Int) (bl.getD pre.length 0) p))) (b := 0) rfl rfl rfl) ?_
   refine wF [(ptr L.bN 0), ub, (Value.func (.func 56) #[] #[(ptr cn 0), (ptr cp 0), (ptr oc 0)]), undef, undef, (ptr e5 0), (ptr e6 0), (eN pre.length), (eI (bl.getD pre.length 0)), (eN ((rowR bl p s pre.length).askR ((rowR bl p s pre.length).readOk (pre.length : Int) (bl.getD pre.length 0) p))), ub, (eN bl.length), (ptr L.bN 0), (Value.agg #[(eN s.gD), (eN s.gB), (eN s.gP)]), (eN s.gD), vF, ub, (Value.func (.func 106) #[] #[(ptr b23 0)]), (eN pre.length), (eI (bl.getD pre.length 0)), (Value.func (.func 56) #[] #[(ptr cn 0), (ptr cp 0), (ptr oc 0)]), (eN pre.length), (eI (bl.getD pre.length 0)), (eN ((rowR bl p s pre.length).askR ((rowR bl p s pre.length).readOk (pre.length : Int) (bl.getD pre.length 0) p))), (eN ((rowR bl p s pre.length).askR ((rowR bl p s pre.length).readOk (pre.length : Int) (bl.getD pre.length 0) p))), (Value.bool (!decide (((rowR bl p s pre.length).askR ((rowR bl p s pre.length).readOk (pre.length : Int) (bl.getD pre.length 0) p)) = 0))), undef] ?_
   refine wD (tN ?_)
   refine cond_un rfl (fun ce_ => ?_) (fun ce_ => ?_)
   ·
    refine wQ (pL ?_)
    refine wI (d_move rfl) ?_
    refine wO (d_store s_ti45 rfl rfl rfl a17 (nb rfl) rfl) ?_
    rintro _ w38 ⟨a39, o40⟩
    replace hN := hN.stepb o40 (in2 (in2 (in2 in1)))
    replace hb := hb.stepb o40 (in2 (in2 (in2 in1)))
    replace hFam := hFam.stepb o40 (in2 (in2 (in2 in1)))
    replace f35 := f35.stepb o40 (in2 (in2 (in2 in1)))
    replace hcn := hcn.step o40 (fun e => absurd e n_cn_e6)
    replace hcp := hcp.step o40 (fun e => absurd e n_cp_e6)
    replace hoc := hoc.step o40 (fun e => absurd e n_oc_e6)
    replace a13 := a13.step o40 (fun e => absurd e n_e5_e6)
    replace a25 := a25.step o40 (fun e => absurd e (Ne.symm n_e6_b23))
    replace aD_ := aD_.step o40 (fun e => absurd e (Ne.symm n_e6_D_))
    replace aL_ := aL_.step o40 (fun e => absurd e (Ne.symm n_e6_L_))
    replace a34 := a34.step o40 (fun x hx e => nq_out_e6 x hx e)
    replace oW := oW.tailb o40 g_oW_e6
    replace o26 := o26.tail o40 (fun k _ e => by have : k = e6 := e; rw [this]; exact in1)
    replace oR_ := oR_.tail o40 (fun k _ e => by have : k = e6 := e; rw [this]; exact (Or.inl in1))
    refine wF [(ptr L.bN 0), ub, (Value.func (.func 56) #[] #[(ptr cn 0), (ptr cp 0), (ptr oc 0)]), undef, undef, (ptr e5 0), (ptr e6 0), (eN pre.length), (eI (bl.getD pre.length 0)), (eN ((rowR bl p s pre.length).askR ((rowR bl p s pre.length).readOk (pre.length : Int) (bl.getD pre.length 0) p))), ub, (eN bl.length), (ptr L.bN 0), (Value.agg #[(eN s.gD), (eN s.gB), (eN s.gP)]), (eN s.gD), vF, ub, (Value.func (.func 106) #[] #[(ptr b23 0)]), (eN pre.length), (eI (bl.getD pre.length 0)), (Value.func (.func 56) #[] #[(ptr cn 0), (ptr cp 0), (ptr oc 0)]), (eN pre.length), (eI (bl.getD pre.length 0)), (eN ((rowR bl p s pre.length).askR ((rowR bl p s pre.length).readOk (pre.length : Int) (bl.getD pre.length 0) p))), (eN ((rowR bl p s pre.length).askR ((rowR bl p s pre.length).readOk (pre.length : Int) (bl.getD pre.length 0) p))), (Value.bool (!decide (((rowR bl p s pre.length).askR ((rowR bl p s pre.length).readOk (pre.length : Int) (bl.getD pre.length 0) p)) = 0))), (eN ((rowR bl p s pre.length).askR ((rowR bl p s pre.length).readOk (pre.length : Int) (bl.getD pre.length 0) p)))] ?_
    refine wD (tN ?_)
    refine wpIn_ret ?_
    refine inb_r ?_
    refine ⟨oR_, rfl, vs ++ [v31], bo29, u30, ?_, ?_, ?_, ?_, ?_, ?_, ?_, ?_, ?_, ?_, ?_, ?_, ?_, ?_, ?_, ?_, ?_⟩
    ·
     (try dsimp only)
     all_goals (rw [List.length_append, List.length_singleton, Nat.add_sub_cancel]; exact hC)
    ·
     (try dsimp only)
     all_goals (rw [List.length_append, List.length_singleton, Nat.add_sub_cancel]; exact ce_)
    ·
     (try dsimp only)
     all_goals (rw [List.length_append, List.length_singleton]; omega)
    ·
     (try dsimp only)
     all_goals (rw [List.length_append, List.length_append, hvl, List.length_singleton, List.length_singleton])
    ·
     exact o26
    ·
     exact hcn
    ·
     exact hcp
    ·
     exact hoc
    ·
     exact a13
    ·
     (try dsimp only)
     all_goals (rw [List.length_append, List.length_singleton, Nat.add_sub_cancel]; exact a39)
    ·
     exact a25
    ·
     (try dsimp only)
     all_goals (rw [← pgRow_snoc hvl]; exact a34)
    ·
     exact q_o26_out
    ·
     exact nq_out_D_
    ·
     exact nq_out_L_
    ·
     (try dsimp only)
     all_goals (exact (by rw [List.length_append, List.length_singleton]; exact hN.less (xx_or1 (xx_or1 (xx_or1 (xx_or1 (xx_or1 (xx_orq (xx_or1 xx_id)))))))))
    ·
     (try dsimp only)
     all_goals (rw [List.length_append, List.length_singleton]; exact fam_snoc (hFam.less (xx_or1 (xx_or1 (xx_or1 (xx_or1 (xx_or1 (xx_ors (xx_orq (xx_or1 xx_id))))))))) (f35.less (xx_or1 (xx_or1 (xx_or1 (xx_or1 (xx_or1 (xx_ors (xx_orq (xx_or1 xx_id))))))))) rfl hvl)
   refine wK ?_
   refine inb_n ?_
   refine ⟨oR_, vs ++ [v31], bo29, u30, ?_, ?_, ?_, ?_, ?_, ?_, ?_, ?_, ?_, ?_, ?_, ?_, ?_, ?_, ?_⟩
   ·
    (try dsimp only)
    all_goals (exact fun j hj => by rw [List.length_append, List.length_singleton] at hj; exact (Nat.lt_succ_iff_lt_or_eq.1 hj).elim (hC j) (fun e => by rw [e]; exact ce_))
   ·
    (try dsimp only)
    all_goals (rw [List.length_append, List.length_append, hvl, List.length_singleton, List.length_singleton])
   ·
    exact o26
   ·
    exact hcn
   ·
    exact hcp
   ·
    exact hoc
   ·
    exact a13
   ·
    exact a17
   ·
    exact a25
   ·
    (try dsimp only)
    all_goals (rw [← pgRow_snoc hvl]; exact a34)
   ·
    exact q_o26_out
   ·
    exact nq_out_D_
   ·
    exact nq_out_L_
   ·
    (try dsimp only)
    all_goals (exact (by rw [List.length_append, List.length_singleton]; exact hN.less (xx_or1 (xx_or1 (xx_or1 (xx_or1 (xx_or1 (xx_orq (xx_or1 xx_id)))))))))
   ·
    (try dsimp only)
    all_goals (rw [List.length_append, List.length_singleton]; exact fam_snoc (hFam.less (xx_or1 (xx_or1 (xx_or1 (xx_or1 (xx_or1 (xx_ors (xx_orq (xx_or1 xx_id))))))))) (f35.less (xx_or1 (xx_or1 (xx_or1 (xx_or1 (xx_or1 (xx_ors (xx_orq (xx_or1 xx_id))))))))) rfl hvl)
  ·
   intro w1_ hI_ aD_
   obtain ⟨vs, bo_out, u_out, hC, hvl, o26, hcn, hcp, hoc, a13, a17, a25, hro, qq_out, nq_out_D_, nq_out_L_, hN, hFam⟩ := hI_
   replace hN := hN.less (Y := (Or1 D_ (Or1 b23 (Or1 e6 (Or1 e5 (Orq bo_out (Or1 oc X))))))) (xx_skip xx_id)
   replace hb := Ps.re (X' := (Or1 D_ (Or1 b23 (Or1 e6 (Or1 e5 (Ors L.S (Orq bo_out (Or1 oc No)))))))) hb o26 (or1_skip (or1_mono (or1_mono (ors_mono (orq_mono (or1_mono no_any)))))) (xx_new (Nat.le_of_eq hD_) (xx_or1 (xx_or1 (xx_or1 (xx_ors (xx_re qq_out (xx_or1 xx_id)))))))
   replace oW := oW.tail o26 (tl_new g_oW_e6 (tl_new g_oW_e5 (tl_sin (show ∀ k, L.S k → Or1 oc (Orq bo L.S) k from fun k h => .inr (.inr h)) (tl_q q_oW_out (fun k e => .inr (.inl e)) (tl_in (.inl rfl) tl_no)))))
   replace q_oW_out := qtr qq_out q_oW_out tq_oW
   replace nq_out_cn := nqs nq_out_cn qq_out h_lt_cn
   replace nq_out_cp := nqs nq_out_cp qq_out h_lt_cp
   replace nq_out_oc := nqs nq_out_oc qq_out h_lt_oc
   replace nq_out_e5 := nqs nq_out_e5 qq_out h_lt_e5
   replace nq_out_e6 := nqs nq_out_e6 qq_out h_lt_e6
   replace nq_out_b23 := nqs nq_out_b23 qq_out h_lt_b23
   have q_o26_out : Fr bo_out bo w21.heap.size := qq_out
   have n_cn_D_ : cn ≠ D_ := by omega
   have n_cp_D_ : cp ≠ D_ := by omega
   have n_oc_D_ : oc ≠ D_ := by omega
   have n_e5_D_ : e5 ≠ D_ := by omega
   have n_e6_D_ : e6 ≠ D_ := by omega
   have n_b23_D_ : b23 ≠ D_ := by omega
   have g_oW_D_ : W.heap.size ≤ D_ := by omega
   have g_o26_D_ : w21.heap.size ≤ D_ := by omega
   replace hFam := hFam.less (Y := (Or1 D_ (Or1 b23 (Or1 e6 (Or1 e5 (Ors L.S (Orq bo_out (Or1 oc (Old W.heap.size))))))))) (xx_skip xx_id)
   rw [plL_len] at hC
   replace hN := nd_to hN (show _ = (rowR bl p s bl.length) from by rw [plL_len])
   refine inb_n (tN ?_)
   refine wQ (pL ?_)
   refine wO (d_store s_ti45 rfl rfl rfl a17 (nb rfl) rfl) ?_
   rintro _ w41 ⟨a42, o43⟩
   replace hN := hN.stepb o43 (in2 (in2 in1))
   replace hb := hb.stepb o43 (in2 (in2 in1))
   replace hFam := hFam.stepb o43 (in2 (in2 in1))
   replace hcn := hcn.step o43 (fun e => absurd e n_cn_e6)
   replace hcp := hcp.step o43 (fun e => absurd e n_cp_e6)
   replace hoc := hoc.step o43 (fun e => absurd e n_oc_e6)
   replace a13 := a13.step o43 (fun e => absurd e n_e5_e6)
   replace a25 := a25.step o43 (fun e => absurd e (Ne.symm n_e6_b23))
   replace aD_ := aD_.step o43 (fun e => absurd e (Ne.symm n_e6_D_))
   replace hro := hro.step o43 (fun x hx e => nq_out_e6 x hx e)
   replace oW := oW.tailb o43 g_oW_e6
   replace o26 := o26.tail o43 (fun k _ e => by have : k = e6 := e; rw [this]; exact in1)
   refine wD (tN ?_)
   refine wpIn_ret ?_
   refine leave (v := (eN 0)) (marks_ok aD_) (fun w44 o45 => ⟨resS Try.results54 ⟨_, Try.underlying45, rfl⟩ rfl (a42.step (only_mem o45) (fun e => absurd e n_e6_D_)), ?_⟩)
   replace o45 := only_mem o45
   replace hN := hN.stepb o45 in1
   replace hb := hb.stepb o45 in1
   replace hFam := hFam.stepb o45 in1
   replace hcn := hcn.step o45 (fun e => absurd e n_cn_D_)
   replace hcp := hcp.step o45 (fun e => absurd e n_cp_D_)
   replace hoc := hoc.step o45 (fun e => absurd e n_oc_D_)
   replace a13 := a13.step o45 (fun e => absurd e n_e5_D_)
   replace a42 := a42.step o45 (fun e => absurd e n_e6_D_)
   replace a25 := a25.step o45 (fun e => absurd e n_b23_D_)
   replace hro := hro.step o45 (fun x hx e => nq_out_D_ x hx e)
   replace oW := oW.tailb o45 g_oW_D_
   replace o26 := o26.tailb o45 g_o26_D_
   obtain ⟨e1_, e2_⟩ := do_all (T := rowR bl p s) (C := rowRC bl p s) k0 hC; exact ⟨_, _, vs, congrArg eN e2_, e1_ ▸ (hN.less (xx_skip (xx_skip (xx_skip (xx_skip (xx_orq (xx_skip xx_id))))))), hoc, hro, by rw [hvl]; exact (hFam.less (xx_skip (xx_skip (xx_skip (xx_skip (xx_skip (xx_orq (xx_skip xx_id)))))))), fun _ => (by rw [hvl, plL_len]), q_oW_out, oW⟩
  ·
   rintro c_ pre w1_ hpx_ ⟨rfl, ⟨vs, bo_out, u_out, hC2, hc2, hp2, hvl, o26, hcn, hcp, hoc, a13, a17, a25, hro, qq_out, nq_out_D_, nq_out_L_, hN, hFam⟩⟩ aD_
   replace hN := hN.less (Y := (Or1 D_ (Or1 b23 (Or1 e6 (Or1 e5 (Orq bo_out (Or1 oc X))))))) (xx_skip xx_id)
   replace hb := Ps.re (X' := (Or1 D_ (Or1 b23 (Or1 e6 (Or1 e5 (Ors L.S (Orq bo_out (Or1 oc No)))))))) hb o26 (or1_skip (or1_mono (or1_mono (ors_mono (orq_mono (or1_mono no_any)))))) (xx_new (Nat.le_of_eq hD_) (xx_or1 (xx_or1 (xx_or1 (xx_ors (xx_re qq_out (xx_or1 xx_id)))))))
   replace oW := oW.tail o26 (tl_new g_oW_e6 (tl_new g_oW_e5 (tl_sin (show ∀ k, L.S k → Or1 oc (Orq bo L.S) k from fun k h => .inr (.inr h)) (tl_q q_oW_out (fun k e => .inr (.inl e)) (tl_in (.inl rfl) tl_no)))))
   replace q_oW_out := qtr qq_out q_oW_out tq_oW
   replace nq_out_cn := nqs nq_out_cn qq_out h_lt_cn
   replace nq_out_cp := nqs nq_out_cp qq_out h_lt_cp
   replace nq_out_oc := nqs nq_out_oc qq_out h_lt_oc
   replace nq_out_e5 := nqs nq_out_e5 qq_out h_lt_e5
   replace nq_out_e6 := nqs nq_out_e6 qq_out h_lt_e6
   replace nq_out_b23 := nqs nq_out_b23 qq_out h_lt_b23
   have q_o26_out : Fr bo_out bo w21.heap.size := qq_out
   have n_cn_D_ : cn ≠ D_ := by omega
   have n_cp_D_ : cp ≠ D_ := by omega
   have n_oc_D_ : oc ≠ D_ := by omega
   have n_e5_D_ : e5 ≠ D_ := by omega
   have n_e6_D_ : e6 ≠ D_ := by omega
   have n_b23_D_ : b23 ≠ D_ := by omega
   have g_oW_D_ : W.heap.size ≤ D_ := by omega
   have g_o26_D_ : w21.heap.size ≤ D_ := by omega
   replace hFam := hFam.less (Y := (Or1 D_ (Or1 b23 (Or1 e6 (Or1 e5 (Ors L.S (Orq bo_out (Or1 oc (Old W.heap.size))))))))) (xx_skip xx_id)
   refine wpIn_ret ?_
   refine inb_r (then_r ?_)
   refine leave (v := (eN (rowRC bl p s (pre.length - 1)))) (marks_ok aD_) (fun w46 o47 => ⟨resS Try.results54 ⟨_, Try.underlying45, rfl⟩ rfl (a17.step (only_mem o47) (fun e => absurd e n_e6_D_)), ?_⟩)
   replace o47 := only_mem o47
   replace hN := hN.stepb o47 in1
   replace hb := hb.stepb o47 in1
   replace hFam := hFam.stepb o47 in1
   replace hcn := hcn.step o47 (fun e => absurd e n_cn_D_)
   replace hcp := hcp.step o47 (fun e => absurd e n_cp_D_)
   replace hoc := hoc.step o47 (fun e => absurd e n_oc_D_)
   replace a13 := a13.step o47 (fun e => absurd e n_e5_D_)
   replace a17 := a17.step o47 (fun e => absurd e n_e6_D_)
   replace a25 := a25.step o47 (fun e => absurd e n_b23_D_)
   replace hro := hro.step o47 (fun x hx e => nq_out_D_ x hx e)
   replace oW := oW.tailb o47 g_oW_D_
   replace o26 := o26.tailb o47 g_o26_D_
   have e3_ : pre.length - 1 + 1 = pre.length := by omega
   have hpl_ := pl_len hpx_
   obtain ⟨e1_, e2_⟩ := do_one (T := rowR bl p s) (C := rowRC bl p s) k0 hC2 hc2 oo; rw [e3_] at e1_; exact ⟨_, _, vs, congrArg eN e2_, e1_ ▸ (hN.less (xx_skip (xx_skip (xx_skip (xx_skip (xx_orq (xx_skip xx_id))))))), hoc, hro, by rw [hvl]; exact (hFam.less (xx_skip (xx_skip (xx_skip (xx_skip (xx_skip (xx_orq (xx_skip xx_id)))))))), fun h_ => (by rw [← e2_] at h_; exact absurd h_ hc2), q_oW_out, oW⟩
 refine pL ?_
 refine wI (d_move rfl) ?_
 refine wI (d_lenS rfl Try.underlying23 rfl hb) ?_
 refine wI (d_move rfl) ?_
 refine wF ([(ptr L.bN 0), ub, (Value.func (.func 56) #[] #[(ptr cn 0), (ptr cp 0), (ptr oc 0)]), undef, undef, (ptr e5 0), (ptr e6 0), undef, undef, undef, ub, (eN bl.length), (ptr L.bN 0)] ++ (us 14)) ?_
 refine wO (d_call (xl := [.tmp 12]) (al := [(ptr L.bN 0)]) Try.func84 kr rfl rfl rfl (geometry_ok L s _ hN)) ?_
 rintro _ w48 ⟨rfl, o49⟩
 replace hN := hN.step0 o49
 replace hb := hb.step0 o49
 replace hcn := hcn.step0 o49
 replace hcp := hcp.step0 o49
 replace hoc := hoc.step0 o49
 replace a13 := a13.step0 o49
 replace a17 := a17.step0 o49
 replace hro := hro.step0 o49
 replace oW := oW.tail0 o49
 refine wI (d_field (v := (eN s.gD)) Try.underlying49 rfl ⟨_, Try.underlying3, rfl⟩ rfl rfl) ?_
 refine wI (n_neq (a := bl.length) (b := s.gD) rfl rfl (by rw [decide_eq_false k0] <;> rfl)) ?_
 refine wD (tN ?_)
 refine cond_t rfl ?_
 refine wQ (pL ?_)
 refine wO (d_store s_ti45 rfl rfl rfl a17 (nb rfl) rfl) ?_
 rintro _ w50 ⟨a51, o52⟩
 replace hN := hN.stepb o52 in1
 replace hb := hb.stepb o52 in1
 replace hcn := hcn.step o52 (fun e => absurd e n_cn_e6)
 replace hcp := hcp.step o52 (fun e => absurd e n_cp_e6)
 replace hoc := hoc.step o52 (fun e => absurd e n_oc_e6)
 replace a13 := a13.step o52 (fun e => absurd e n_e5_e6)
 replace hro := hro.step o52 (fun x hx e => nq_out_e6 x hx e)
 replace oW := oW.tailb o52 g_oW_e6
 refine wD (tN ?_)
 refine wpIn_ret ?_
 refine then_r ?_
 refine leave0 (v := (eN 1)) (resS Try.results54 ⟨_, Try.underlying45, rfl⟩ rfl a51) ?_
 obtain ⟨e1_, e2_⟩ := do_no (T := rowR bl p s) (C := rowRC bl p s) k0; exact ⟨_, _, [], congrArg eN e2_, e1_ ▸ (hN.less (xx_skip (xx_skip (xx_orq (xx_skip xx_id))))), hoc, hro, fam_zero, fun h_ => (by rw [← e2_] at h_; cases h_), q_oW_out, oW⟩
theorem rowRead_ok (L : NL) (s : NS) {X : Nat → Prop} (W : World) (hN : Nd L s X W) (hX : ∀ k, X k → k < W.heap.size) (bl : List Int) (ub : Value) (hb : Ps (Ors L.S No) (Seq kI bl ub) W) (gb : bl.length ≤ 1000) (p : Int) :
    CW Try.prog 34 #[(ptr L.bN 0), ub, (eI p)] W (Rt (fun u w => ∃ v vs, u = .tuple #[v, eN (rowDoC s.gD bl.length (rowRC bl p s))] ∧ ((rowDoC s.gD bl.length (rowRC bl p s)) = 0 → vs.length = bl.length ∧ Ps (Old W.heap.size) (Seq (kA 2 eG) (pgRow (fun k_ => (pgD (rowRL bl p s k_)).1) vs) v) w ∧ Ps (Old W.heap.size) (Fam kB vs.length (fun k_ => (pgD (rowRL bl p s k_)).2) vs) w) ∧ (¬ (rowDoC s.gD bl.length (rowRC bl p s)) = 0 → v = .slice none 0 0) ∧ Nd L (rowDo s.gD bl.length (rowR bl p s) (rowRC bl p s)) X w ∧ Only L.S W w)) := by
 have oW : Only L.S W W := Only.refl _ _
 refine enter (al := [(ptr L.bN 0), ub, (eI p)]) (k := 16) (l := ([(ptr L.bN 0), ub, (eI p)] ++ (us 16))) Try.func34 rfl Try.ntmps34 rfl rfl ?_
 refine wQ (pL ?_)
 refine wO (d_box rfl rfl) ?_
 rintro _ w11 ⟨cn, rfl, g12, a13, o14⟩
 have g_oW_cn : W.heap.size ≤ cn := Nat.le_trans oW.size g12
 replace hN := hN.new o14 g12
 replace hb := hb.new o14 g12
 replace oW := oW.tail0 o14
 refine wO (d_box rfl rfl) ?_
 rintro _ w15 ⟨cp, rfl, g16, a17, o18⟩
 have n_cn_cp : cn ≠ cp := a13.ne g16
 have g_oW_cp : W.heap.size ≤ cp := Nat.le_trans oW.size g16
 replace hN := hN.new o18 g16
 replace hb := hb.new o18 g16
 replace a13 := a13.step0 o18
 replace oW := oW.tail0 o18
 refine wI (d_assign rfl) ?_
 refine wI (d_assign rfl) ?_
 refine wD (tN (wQ ?_))
 refine wp_eq (l' := ([(ptr L.bN 0), ub, (eI p), (ptr cn 0), undef, (ptr cp 0), (Value.slice none 0 0), (eN 0)] ++ (us 11))) rfl ?_
 refine pL ?_
 refine wO (d_alloc s_ti53 rfl) ?_
 rintro _ w19 ⟨oc, rfl, g20, a21, o22⟩
 have n_cn_oc : cn ≠ oc := a13.ne g20
 have n_cp_oc : cp ≠ oc := a17.ne g20
 have g_oW_oc : W.heap.size ≤ oc := Nat.le_trans oW.size g20
 replace hN := hN.new o22 g20
 replace hb := hb.new o22 g20
 replace a13 := a13.step0 o22
 replace a17 := a17.step0 o22
 replace oW := oW.tail0 o22
 refine wF ([(ptr L.bN 0), ub, (eI p), (ptr cn 0), undef, (ptr cp 0), (Value.slice none 0 0), (eN 0), (ptr oc 0)] ++ (us 10)) ?_
 refine wD ?_
 have a23 : Ow 32 2 none (Value.slice none 0 0) ([] : List ((Nat × Value))).length (([] : List ((Nat × Value))).flatMap eG) w19 := Ow.nil _ _ _
 have nq_out_cn : ∀ x, (none : Option Nat) = some x → ¬ x = cn := fun x e => by cases e
 have nq_out_cp : ∀ x, (none : Option Nat) = some x → ¬ x = cp := fun x e => by cases e
 have nq_out_oc : ∀ x, (none : Option Nat) = some x → ¬ x = oc := fun x e => by cases e
 have q_oW_out : Fr none none W.heap.size := Fr.none
 replace hN := hN.qnone
 replace hb := hb.qnone
 refine tN (wQ (pL ?_))
 refine wI (d_load (v := (ptr L.bN 0)) ⟨_, Try.underlying44, rfl⟩ rfl a13 rfl) ?_
 refine wI (d_move rfl) ?_
 refine wI (d_funcL (yl := [.tmp 3, .tmp 5, .tmp 8]) (ys := [(ptr cn 0), (ptr cp 0), (ptr oc 0)]) rfl) ?_
 refine wO (d_call (xl := [.tmp 10, .tmp 11, .tmp 12]) (al := [(ptr L.bN 0), ub, (Value.func (.func 56) #[] #[(ptr cn 0), (ptr cp 0), (ptr oc 0)])]) Try.func54 kr rfl rfl rfl (eachR_ok L s _ hN (lt_orq a23.lts (lt_or1 a21.lt (lt_or1 a17.lt (lt_or1 a13.lt (fun k t => Nat.lt_of_lt_of_le (hX k t) oW.size))))) bl ub (hb.less (os_of (subq (sub2 (sub2 (sub2 sub1)))))) fo p none (Value.slice none 0 0) cn cp a13 (inq (in2 (in2 in1))) a17 (inq (in2 in1)) n_cn_cp oc a21 (inq in1) a23 (fun k e => (.inl e)) n_cn_oc n_cp_oc nq_out_cn nq_out_cp nq_out_oc (hb.less (fun k _ t_ => t_.elim ((subq (sub2 (sub2 (sub2 sub1)))) k) (fun t_ => t_.elim ((fun k e => (.inl e)) k) (fun t_ => t_.elim (fun e_ => by rw [e_]; exact (inq in1)) (fun t_ => t_.elim))))))) ?_
 rintro _ w24 ⟨bo26, u27, vs28, rfl, a29, a30, a31, f32, l33, q34, o35⟩
 replace f32 := f32.less (Y := (Orq bo26 (Or1 oc (Or1 cp (Or1 cn (Ors L.S (Old W.heap.size))))))) (yz_q (yz_or1 a21.lt (yz_or1 a17.lt (yz_or1 a13.lt (yz_ors hN.lt (fun k _ t => Or.inr (Nat.lt_of_lt_of_le t oW.size)))))))
 replace a29 := a29.less (Y := (Orq bo26 (Or1 oc (Or1 cp (Or1 cn X))))) (yy_q (yy_or1 (yy_or1 (yy_or1 yy_id))))
 replace hb := Ps.re (X' := (Orq bo26 (Or1 oc (Or1 cp (Or1 cn (Ors L.S No)))))) hb o35 (fun k t_ => t_.elim (fun e_ => by rw [e_]; exact (inq in1)) (fun t_ => t_.elim ((fun k e => (.inl e)) k) ((subq (sub2 (sub2 (sub2 sub1)))) k))) (xx_re q34 (xx_or1 (xx_or1 (xx_or1 (xx_ors xx_id)))))
 have nq2 := nqs nq_out_cn q34 a13.lt
 replace a13 := a13.step o35 (fun t_ => t_.elim (fun e_ => absurd e_ n_cn_oc) (fun t_ => t_.elim (fun e_ => nq_out_cn _ e_ rfl) (hN.dis _ (inq (in2 (in2 in1))))))
 replace nq_out_cn := nq2
 clear nq2
 have nq2 := nqs nq_out_cp q34 a17.lt
 replace a17 := a17.step o35 (fun t_ => t_.elim (fun e_ => absurd e_ n_cp_oc) (fun t_ => t_.elim (fun e_ => nq_out_cp _ e_ rfl) (hN.dis _ (inq (in2 in1)))))
 replace nq_out_cp := nq2
 clear nq2
 have nq2 := nqs nq_out_oc q34 a21.lt
 replace a21 := a30
 replace nq_out_oc := nq2
 clear nq2
 have tq := oW.size
 replace oW := oW.tail o35 (tl_new g_oW_oc (tl_q q_oW_out (fun _ e => by cases e) (fun k _ e => (fun k h => h) k e)))
 replace q_oW_out := qtr q34 q_oW_out tq
 clear tq
 replace hN := a29
 refine wI (d_assign rfl) ?_
 refine wF ([(ptr L.bN 0), ub, (eI p), (ptr cn 0), undef, (ptr cp 0), (Value.slice none 0 0), (eN 0), (ptr oc 0), (eN (rowDoC s.gD bl.length (rowRC bl p s))), (ptr L.bN 0), ub, (Value.func (.func 56) #[] #[(ptr cn 0), (ptr cp 0), (ptr oc 0)]), (eN (rowDoC s.gD bl.length (rowRC bl p s)))] ++ (us 5)) ?_
 refine wD (tN (wQ (wQ (pL ?_))))
 refine wI (d_move rfl) ?_
 refine wI (n_neq (a := (rowDoC s.gD bl.length (rowRC bl p s))) (b := 0) rfl rfl rfl) ?_
 refine wD (tN ?_)
 refine cond_un rfl (fun cr => ?_) (fun cr => ?_)
 ·
  refine wQ (pL ?_)
  refine wI (d_move rfl) ?_
  refine wI (d_assign rfl) ?_
  refine wI (d_assign rfl) ?_
  refine wF [(ptr L.bN 0), ub, (eI p), (ptr cn 0), undef, (ptr cp 0), (Value.slice none 0 0), (eN (rowDoC s.gD bl.length (rowRC bl p s))), (ptr oc 0), (eN (rowDoC s.gD bl.length (rowRC bl p s))), (ptr L.bN 0), ub, (Value.func (.func 56) #[] #[(ptr cn 0), (ptr cp 0), (ptr oc 0)]), (eN (rowDoC s.gD bl.length (rowRC bl p s))), (eN (rowDoC s.gD bl.length (rowRC bl p s))), (Value.bool (!decide ((rowDoC s.gD bl.length (rowRC bl p s)) = 0))), (eN (rowDoC s.gD bl.length (rowRC bl p s))), undef, undef] ?_
  refine wD (tN ?_)
  refine wpIn_ret ?_
  refine then_r ?_
  refine leave0 (v := (Value.tuple #[(Value.slice none 0 0), (eN (rowDoC s.gD bl.length (rowRC bl p s)))])) (res2 Try.results34 rfl rfl) ?_
  exact ⟨_, vs28, rfl, fun h_ => absurd h_ cr, fun _ => rfl, (hN.less (xx_skip (xx_skip (xx_skip (xx_skip xx_id))))), oW⟩
 refine wK (tN (wQ (pL ?_)))
 refine wI (d_load (v := u27) ⟨_, Try.underlying53, rfl⟩ rfl a21 rfl) ?_
 refine wO (d_append Try.underlying53 Try.underlying53 s_ti32 rfl rfl rfl (Ow.nil 32 2 _) (Ow.srcG a31 (pgRow_one f32 rfl)) (by have := pgRow_len (fun k_ => (pgD (rowRL bl p s k_)).1) vs28; have := l33 cr; omega) (by have := pgRow_len (fun k_ => (pgD (rowRL bl p s k_)).1) vs28; have := l33 cr; omega) rfl) ?_
 rintro u36 w37 ⟨bo38, a39, o40, q41⟩
 replace hN := hN.qnone
 replace hb := hb.qnone
 replace f32 := f32.qnone
 have nq_row42_cn : ∀ x, (none : Option Nat) = some x → ¬ x = cn := fun x e => by cases e
 have nq_row42_cp : ∀ x, (none : Option Nat) = some x → ¬ x = cp := fun x e => by cases e
 have nq_row42_oc : ∀ x, (none : Option Nat) = some x → ¬ x = oc := fun x e => by cases e
 have q_oW_row42 : Fr none none W.heap.size := Fr.none
 replace a39 : Ow 32 2 bo38 u36 (pgRow (fun k_ => (pgD (rowRL bl p s k_)).1) vs28).length ((pgRow (fun k_ => (pgD (rowRL bl p s k_)).1) vs28).flatMap eG) w37 := ow_appG (xs := ([] : List (Nat × Value))) a39 rfl rfl
 have nqq_out_row42 : ∀ x, bo26 = some x → (none : Option Nat) = some x → False := fun _ _ e => by cases e
 replace hN := hN.gr o40 (fun k e => (.inl e)) (xx_re (Fr.of_or q41) (xx_orq (xx_or1 (xx_or1 (xx_or1 xx_id)))))
 replace hb := hb.gr o40 (fun k e => (.inl e)) (xx_re (Fr.of_or q41) (xx_orq (xx_or1 (xx_or1 (xx_or1 (xx_ors xx_id))))))
 replace f32 := f32.gr o40 (fun k e => (.inl e)) (xx_re (Fr.of_or q41) (xx_orq (xx_or1 (xx_or1 (xx_or1 (xx_ors xx_id))))))
 have nq2 := nqs nq_row42_cn (Fr.of_or q41) a13.lt
 replace a13 := a13.step o40 (fun e => nq_row42_cn _ e rfl)
 replace nq_row42_cn := nq2
 clear nq2
 have nq2 := nqs nq_row42_cp (Fr.of_or q41) a17.lt
 replace a17 := a17.step o40 (fun e => nq_row42_cp _ e rfl)
 replace nq_row42_cp := nq2
 clear nq2
 have nq2 := nqs nq_row42_oc (Fr.of_or q41) a21.lt
 replace a21 := a21.step o40 (fun e => nq_row42_oc _ e rfl)
 replace nq_row42_oc := nq2
 clear nq2
 have lt2 := a31.lts
 replace a31 := a31.step o40 (fun x hx e => nqq_out_row42 x hx e)
 replace nqq_out_row42 := nqq_step nqq_out_row42 (Fr.of_or q41) lt2
 clear lt2
 have tq := oW.size
 replace oW := oW.tailr o40 q_oW_row42 (fun _ e => by cases e)
 replace q_oW_row42 := qtr (Fr.of_or q41) q_oW_row42 tq
 clear tq
 refine wI (d_assign rfl) ?_
 refine wF [(ptr L.bN 0), ub, (eI p), (ptr cn 0), undef, (ptr cp 0), u36, (eN 0), (ptr oc 0), (eN (rowDoC s.gD bl.length (rowRC bl p s))), (ptr L.bN 0), ub, (Value.func (.func 56) #[] #[(ptr cn 0), (ptr cp 0), (ptr oc 0)]), (eN (rowDoC s.gD bl.length (rowRC bl p s))), (eN (rowDoC s.gD bl.length (rowRC bl p s))), (Value.bool (!decide ((rowDoC s.gD bl.length (rowRC bl p s)) = 0))), undef, u27, u36] ?_
 refine wI (d_assign rfl) ?_
 refine wD (tN ?_)
 refine wpIn_ret ?_
 refine leave0 (v := (Value.tuple #[u36, (eN 0)])) (res2 Try.results34 rfl rfl) ?_
 exact ⟨_, vs28, congrArg (fun x_ => Value.tuple #[_, eN x_]) cr.symm, fun _ => ⟨l33 cr, (Ow.seqG a39 (old_q q_oW_row42)), f32.less (xx_skip (xx_skip (xx_skip (xx_skip (xx_skip (xx_skip xx_id))))))⟩, fun h_ => absurd cr h_, (hN.less (xx_skip (xx_skip (xx_skip (xx_skip (xx_skip xx_id)))))), oW⟩
theorem law12Within_ok (a : Int) (m : Nat) (W : World) (hm : 0 < m) (hm2 : m ≤ 1000000) :
    CW Try.prog 29 #[(eI a), (eN m)] W (Rt (RIs (eN (a % (m : Int)).toNat) W)) := by
 have oW : Only No W W := Only.refl _ _
 refine enter (al := [(eI a), (eN m)]) (k := 13) (l := ([(eI a), (eN m)] ++ (us 13))) Try.func29 rfl Try.ntmps29 rfl rfl ?_
 refine wQ (pL ?_)
 refine wI (d_assign rfl) ?_
 refine wD (tN (wQ (pL ?_)))
 refine wI (d_move rfl) ?_
 refine wI (d_move rfl) ?_
 refine wI (d_rem (k := .i64) (m := a) (n := (m : Int)) rfl rfl oo (r := Int.tmod a (m : Int)) rfl) ?_
 refine wI (d_assign rfl) ?_
 refine wF ([(eI a), (eN m), undef, undef, (eN 0), (eI (Int.tmod a (m : Int))), (eI a), (eN m), (eI (Int.tmod a (m : Int)))] ++ (us 6)) ?_
 refine wD (tN (wQ (wQ (pL ?_))))
 refine wI (d_move rfl) ?_
 refine wI (d_lss (k := .i64) (m := Int.tmod a (m : Int)) (n := 0) rfl rfl rfl) ?_
 refine wD (tN ?_)
 refine cond_if rfl (fun k1 => ?_) (fun k1 => ?_)
 ·
  refine pL ?_
  refine wI (d_move rfl) ?_
  refine wI (d_move rfl) ?_
  refine wI (d_add (k := .i64) (m := Int.tmod a (m : Int)) (n := (m : Int)) rfl rfl (r := (((a % (m : Int)).toNat : Nat) : Int)) (tmm_neg hm hm2 k1)) ?_
  refine wF [(eI a), (eN m), undef, undef, (eN 0), (eI (Int.tmod a (m : Int))), (eI a), (eN m), (eI (Int.tmod a (m : Int))), (eI (Int.tmod a (m : Int))), (Value.bool (decide (Int.tmod a (m : Int) < 0))), (eI (Int.tmod a (m : Int))), (eN m), (eN ((a % (m : Int)).toNat)), undef] ?_
  refine wI (d_assign rfl) ?_
  refine wD (tN (wQ (pL ?_)))
  refine wI (d_move rfl) ?_
  refine wI (d_assign rfl) ?_
  refine wD (tN ?_)
  refine wpIn_ret ?_
  refine leave0 (v := (eN ((a % (m : Int)).toNat))) (res1 Try.results29 rfl) ?_
  exact ⟨rfl, oW⟩
 refine wp_eq (l' := [(eI a), (eN m), undef, undef, (eN 0), (eI (Int.tmod a (m : Int))), (eI a), (eN m), (eI (Int.tmod a (m : Int))), (eI (Int.tmod a (m : Int))), (Value.bool (decide (Int.tmod a (m : Int) < 0))), undef, undef, undef, undef]) rfl ?_
 refine wp_eq (l' := [(eI a), (eN m), undef, undef, (eN 0), (eN ((a % (m : Int)).toNat)), (eI a), (eN m), (eN ((a % (m : Int)).toNat)), (eN ((a % (m : Int)).toNat)), (Value.bool (decide (Int.tmod a (m : Int) < 0))), undef, undef, undef, undef]) (Eq.trans (Eq.trans (show ([(eI a), (eN m), undef, undef, (eN 0), (eI (Int.tmod a (m : Int))), (eI a), (eN m), (eI (Int.tmod a (m : Int))), (eI (Int.tmod a (m : Int))), (Value.bool (decide (Int.tmod a (m : Int) < 0))), undef, undef, undef, undef] : List Value) = [(eI a), (eN m), undef, undef, (eN 0), (eN ((a % (m : Int)).toNat)), (eI a), (eN m), (eI (Int.tmod a (m : Int))), (eI (Int.tmod a (m : Int))), (Value.bool (decide (Int.tmod a (m : Int) < 0))), undef, undef, undef, undef] from reslot [(eI a), (eN m), undef, undef, (eN 0), (eI (Int.tmod a (m : Int))), (eI a), (eN m), (eI (Int.tmod a (m : Int))), (eI (Int.tmod a (m : Int))), (Value.bool (decide (Int.tmod a (m : Int) < 0))), undef, undef, undef, undef] 5 (tmm_pos hm k1)) (show ([(eI a), (eN m), undef, undef, (eN 0), (eN ((a % (m : Int)).toNat)), (eI a), (eN m), (eI (Int.tmod a (m : Int))), (eI (Int.tmod a (m : Int))), (Value.bool (decide (Int.tmod a (m : Int) < 0))), undef, undef, undef, undef] : List Value) = [(eI a), (eN m), undef, undef, (eN 0), (eN ((a % (m : Int)).toNat)), (eI a), (eN m), (eN ((a % (m : Int)).toNat)), (eI (Int.tmod a (m : Int))), (Value.bool (decide (Int.tmod a (m : Int) < 0))), undef, undef, undef, undef] from reslot [(eI a), (eN m), undef, undef, (eN 0), (eN ((a % (m : Int)).toNat)), (eI a), (eN m), (eI (Int.tmod a (m : Int))), (eI (Int.tmod a (m : Int))), (Value.bool (decide (Int.tmod a (m : Int) < 0))), undef, undef, undef, undef] 8 (tmm_pos hm k1))) (show ([(eI a), (eN m), undef, undef, (eN 0), (eN ((a % (m : Int)).toNat)), (eI a), (eN m), (eN ((a % (m : Int)).toNat)), (eI (Int.tmod a (m : Int))), (Value.bool (decide (Int.tmod a (m : Int) < 0))), undef, undef, undef, undef] : List Value) = [(eI a), (eN m), undef, undef, (eN 0), (eN ((a % (m : Int)).toNat)), (eI a), (eN m), (eN ((a % (m : Int)).toNat)), (eN ((a % (m : Int)).toNat)), (Value.bool (decide (Int.tmod a (m : Int) < 0))), undef, undef, undef, undef] from reslot [(eI a), (eN m), undef, undef, (eN 0), (eN ((a % (m : Int)).toNat)), (eI a), (eN m), (eN ((a % (m : Int)).toNat)), (eI (Int.tmod a (m : Int))), (Value.bool (decide (Int.tmod a (m : Int) < 0))), undef, undef, undef, undef] 9 (tmm_pos hm k1))) ?_
 refine wK (tN (wQ (pL ?_)))
 refine wI (d_move rfl) ?_
 refine wI (d_assign rfl) ?_
 refine wD (tN ?_)
 refine wpIn_ret ?_
 refine leave0 (v := (eN ((a % (m : Int)).toNat))) (res1 Try.results29 rfl) ?_
 exact ⟨rfl, oW⟩
theorem payloads_ok (la : List UInt8) (n : Nat) (u1 : Value) (W : World) (h1 : Ps No (Seq kB la u1) W) (gn : n ≤ 100) :
    CW Try.prog 31 #[u1, (eN n)] W (Rt (fun u w => ∃ vs, vs.length = n ∧ Ps (Old W.heap.size) (Seq (kS eV) vs u) w ∧ Ps (Old W.heap.size) (Fam kB n (plD la n) vs) w ∧ Only No W w)) := by
 have oW : Only No W W := Only.refl _ _
 refine enter (al := [u1, (eN n)]) (k := 26) (l := ([u1, (eN n)] ++ (us 26))) Try.func31 rfl Try.ntmps31 rfl rfl ?_
 refine wQ (pL ?_)
 refine wI (d_assign rfl) ?_
 refine wD (tN (wQ ?_))
 refine wp_eq (l' := ([u1, (eN n), undef, undef, (Value.slice none 0 0)] ++ (us 23))) rfl ?_
 refine pL ?_
 refine wI (d_assign rfl) ?_
 refine wF ([u1, (eN n), undef, undef, (Value.slice none 0 0), (Value.slice none 0 0)] ++ (us 22)) ?_
 refine wD ?_
 have a11 : Ow 22 1 none (Value.slice none 0 0) ([] : List (Value)).length (([] : List (Value)).map eV) W := Ow.nil _ _ _
 have q_oW_l : Fr none none W.heap.size := Fr.none
 replace h1 := h1.qnone
 refine tN (wQ (pL ?_))
 refine wI (d_move rfl) ?_
 refine wI (d_move rfl) ?_
 refine wI (n_mul (a := 48) (b := n) rfl rfl oo) ?_
 refine wO (d_call (xl := [.tmp 8, .tmp 10]) (al := [u1, (eN (48 * n))]) Try.func15 kr rfl rfl rfl (l4Data_ok la (48 * n) u1 _ (Ps.no h1) oo)) ?_
 rintro u14 w12 f15
 obtain ⟨bo16, f15, g17, o13⟩ := f15
 have nqq_l_d := nqq_new g17 a11.lts
 have q_oW_d := qnew g17 oW.size
 replace h1 := h1.newq o13 g17
 replace a11 := a11.step0 o13
 replace oW := oW.tail0 o13
 refine wI (d_assign rfl) ?_
 refine wF ([u1, (eN n), undef, undef, (Value.slice none 0 0), (Value.slice none 0 0), u14, undef, u1, (eN n), (eN (48 * n)), u14] ++ (us 16)) ?_
 refine wD (tN (wQ (wQ ?_)))
 have f18 : Ps (Orq none (Old W.heap.size)) (Seq kB (dataL la (48 * n)) u14) w12 := Ow.seq f15 (fun b_ hb_ => (not_orq (fun x_ hx_ e_ => nqq_l_d x_ hx_ (e_ ▸ hb_)) (old_q q_oW_d b_ hb_)))
 replace h1 := Ps.less (Y := (Orq none No)) h1 (xx_skip (xx_orq xx_id))
 refine pL ?_
 refine wI (d_assign rfl) ?_
 refine wD (tN (wB ?_))
 have h_lts_l := a11.lts
 refine loop2 (fun (s_ : (Nat) × (List Value) × (Option Nat) × (Value)) => match s_ with | ⟨i, vs, bo_l, u_l⟩ => fun (z : Nat → Value) => (([u1, (eN n), undef, undef, (Value.slice none 0 0), u_l, u14, (eN i), u1, (eN n), (eN (48 * n)), u14] ++ (zs z 12 15 ++ [undef])) : List Value)) (fun (s_ : (Nat) × (List Value) × (Option Nat) × (Value)) => match s_ with | ⟨i, vs, bo_l, u_l⟩ => fun (w_ : World) => (i ≤ n) ∧ (vs.length = i) ∧ (Ps (Orq bo_l (Old W.heap.size)) (Fam kB i (plD la n) vs) w_) ∧ Only (Orq none No) w12 w_ ∧ Ow 22 1 bo_l u_l (vs).length ((vs).map eV) w_ ∧ Fr bo_l none w12.heap.size) (fun (s_ : (Nat) × (List Value) × (Option Nat) × (Value)) => match s_ with | ⟨i, vs, bo_l, u_l⟩ => n - i) ⟨0, [], none, (Value.slice none 0 0)⟩ kr ?_ ?_
 ·
  refine ⟨?_, ?_, ?_, ?_, ?_, ?_⟩
  ·
   exact Nat.zero_le _
  ·
   exact rfl
  ·
   exact fam_zero
  ·
   exact Only.refl _ _
  ·
   exact a11
  ·
   exact Fr.same
 rintro ⟨i, vs, bo_l, u_l⟩ z w20 ⟨hi, hv, hF, o19, a11, qq_l⟩
 (try dsimp only)
 replace h1 := h1.re o19 (orq_mono no_any) (xx_re qq_l xx_id)
 replace f18 := f18.re o19 (orq_mono no_any) (xx_re qq_l xx_id)
 have tq_oW := oW.size
 replace oW := oW.tail o19 (tl_q q_oW_l (fun _ e => by cases e) tl_no)
 replace q_oW_l := qtr qq_l q_oW_l tq_oW
 have q_o19_l := qq_l
 refine wQ (wQ (pL ?_))
 refine wI (d_move rfl) ?_
 refine wI (d_move rfl) ?_
 refine wI (n_lss (a := i) (b := n) rfl rfl rfl) ?_
 refine wD (tN ?_)
 refine cond_if rfl (fun c21 => ?_) (fun c21 => ?_)
 ·
  refine wK (tN (wQ (wB (pL ?_))))
  refine wI (d_move rfl) ?_
  refine wI (d_move rfl) ?_
  refine wF ([u1, (eN n), undef, undef, (Value.slice none 0 0), u_l, u14, (eN i), u1, (eN n), (eN (48 * n)), u14, (eN i), (eN n), (Value.bool (decide (i < n))), (z 15), (z 16), u_l, u14] ++ (zs z 19 8 ++ [undef])) ?_
  refine wI (d_move rfl) ?_
  refine wI (n_mul (a := 48) (b := i) rfl rfl oo) ?_
  refine wI (d_move rfl) ?_
  refine wI (n_mul (a := 48) (b := i) rfl rfl oo) ?_
  refine wI (n_add (a := (48 * i)) (b := 48) rfl rfl oo) ?_
  refine wF [u1, (eN n), undef, undef, (Value.slice none 0 0), u_l, u14, (eN i), u1, (eN n), (eN (48 * n)), u14, (eN i), (eN n), (Value.bool (decide (i < n))), (z 15), (z 16), u_l, u14, (eN i), (eN (48 * i)), (eN i), (eN (48 * i)), (eN (48 * i + 48)), (z 24), (z 25), (z 26), undef] ?_
  refine wO (d_sliceS (xs := (dataL la (48 * n))) (ys := (plD la n i)) (l := (48 * i)) (h := (48 * i + 48)) Try.underlying22 s_ti5 rfl f18 (Bd.some (l := (48 * i)) (k := .i64) rfl) (Bd.some (l := (48 * i + 48)) (k := .i64) rfl) oo (by rw [dataL_length]; omega) (by unfold plD; rw [List.drop_take]; simp)) ?_
  rintro u22 _ ⟨f23, rfl⟩
  refine wO (d_buildL (cs := [u22]) Try.underlying29 s_ti22 rfl (nb rfl) (parts_cons (vs := [u22]) (cells_of (v := u22) rfl (Seq.cells f23)) parts_nil) rfl) ?_
  rintro _ w24 ⟨pb, rfl, g25, a26, o27⟩
  replace a26 : Arr 22 pb (([u22] : List Value).map eV) w24 := a26
  have l_pb : ([u22] : List Value).length = 1 := rfl
  have nq_l_pb : ∀ x, bo_l = some x → ¬ x = pb := fun x hx e => by have := a11.lts x hx; omega
  have g_oW_pb : W.heap.size ≤ pb := Nat.le_trans oW.size g25
  have g_o19_pb : w12.heap.size ≤ pb := Nat.le_trans o19.size g25
  replace h1 := h1.new o27 g25
  replace f18 := f18.new o27 g25
  replace hF := hF.new o27 g25
  replace f23 := f23.new o27 g25
  replace a11 := a11.step0 o27
  replace oW := oW.tail0 o27
  replace o19 := o19.tail0 o27
  refine wO (d_append Try.underlying29 Try.underlying29 s_ti22 rfl rfl rfl a11 (SrcV.of_arr (n := 1) (sz := 1) a26 rfl (fun v_ hv_ => by rw [List.mem_singleton.1 (show v_ ∈ [u22] from hv_)]; exact (Seq.one f23))) (by first | omega | (simp; omega)) (by first | omega | (simp; omega)) rfl) ?_
  rintro u28 w29 ⟨bo30, a31, o32, q33⟩
  replace a31 : Ow 22 1 bo30 u28 (vs ++ ([u22] : List Value)).length ((vs ++ ([u22] : List Value)).map eV) w29 := by rw [List.length_append, List.map_append]; exact a31
  replace h1 := h1.gr o32 (fun k e => (.inr (.inl e))) (xx_or1 (xx_re (Fr.of_or q33) xx_id))
  replace f18 := f18.gr o32 (fun k e => (.inr (.inl e))) (xx_or1 (xx_re (Fr.of_or q33) xx_id))
  replace hF := hF.gr o32 (fun k e => (.inr (.inl e))) (xx_or1 (xx_re (Fr.of_or q33) xx_id))
  replace f23 := f23.gr o32 (fun k e => (.inr (.inl e))) (xx_or1 (xx_re (Fr.of_or q33) xx_id))
  have nq2 := nqs nq_l_pb (Fr.of_or q33) a26.lt
  replace a26 := a26.step o32 (fun e => nq_l_pb _ e rfl)
  replace nq_l_pb := nq2
  clear nq2
  have tq := oW.size
  replace oW := oW.tailr o32 q_oW_l (fun _ e => by cases e)
  replace q_oW_l := qtr (Fr.of_or q33) q_oW_l tq
  clear tq
  have tq := o19.size
  replace o19 := o19.tailr o32 q_o19_l (fun k e => (.inl e))
  replace q_o19_l := qtr (Fr.of_or q33) q_o19_l tq
  clear tq
  refine wI (d_assign rfl) ?_
  refine wD ?_
  refine inb_n (tN ?_)
  refine pL ?_
  refine wI (d_move rfl) ?_
  refine wF [u1, (eN n), undef, undef, (Value.slice none 0 0), u28, u14, (eN i), u1, (eN n), (eN (48 * n)), u14, (eN i), (eN n), (Value.bool (decide (i < n))), (eN i), (z 16), u_l, u14, (eN i), (eN (48 * i)), (eN i), (eN (48 * i)), (eN (48 * i + 48)), u22, (sli pb 0 1 1), u28, undef] ?_
  refine wI (n_add (a := i) (b := 1) rfl rfl oo) ?_
  refine wI (d_assign rfl) ?_
  refine wD (tN ?_)
  refine ⟨_, ⟨i + 1, vs ++ [u22], bo30, u28⟩, rfl, kr, ⟨?_, ?_, ?_, ?_, ?_, ?_⟩, ?_⟩
  ·
   (try dsimp only)
   all_goals (omega)
  ·
   (try dsimp only)
   all_goals (rw [List.length_append, hv, List.length_singleton])
  ·
   exact fam_snoc (hF.less (xx_skip (xx_orq xx_id))) (f23.less (xx_skip (xx_orq xx_id))) rfl hv
  ·
   exact o19
  ·
   exact a31
  ·
   exact q_o19_l
  ·
   (try dsimp only)
   all_goals (omega)
 refine wpIn_exit ?_
 refine then_x (then_x (inb_e ?_))
 refine tN (wQ (pL ?_))
 refine wI (d_move rfl) ?_
 refine wI (d_assign rfl) ?_
 refine wF ([u1, (eN n), undef, undef, u_l, u_l, u14, (eN i), u1, (eN n), (eN (48 * n)), u14, (eN i), (eN n), (Value.bool (decide (i < n)))] ++ (zs z 15 12 ++ [u_l])) ?_
 refine wD (tN ?_)
 refine wpIn_ret ?_
 refine leave0 (v := u_l) (res1 Try.results31 rfl) ?_
 have hin_ : i = n := by omega
 rw [hin_] at hF hv
 exact ⟨vs, hv, (Ow.seq a11 (old_q q_oW_l)), hF.less (xx_skip xx_id), oW⟩
theorem law12Known_ok (W : World) :
    CW Try.prog 27 #[] W (Rt (RIs (.bool true) W)) := by
 have oW : Only No W W := Only.refl _ _
 refine enter (al := []) (k := 34) (l := (us 34)) Try.func27 rfl Try.ntmps27 rfl rfl ?_
 refine wQ (pL ?_)
 refine wI (d_assign rfl) ?_
 refine wD (tN (wQ (pL ?_)))
 refine wI (d_buildS (pl := [(0, 1), (1, 1), (2, 1)]) (zs := [(eN 0), (eN 0), (eN 0)]) (cs := [(eN 6), (eN 8), (eN 4)]) Try.underlying49 s_ti49 ⟨_, _, _, _, rfl, s_ti3, ⟨_, _, _, _, rfl, s_ti3, ⟨_, _, _, _, rfl, s_ti3, rfl⟩⟩⟩ rfl (parts_cons (vs := [(eN 6)]) (cells_of (v := (eN 6)) rfl rfl) (parts_cons (vs := [(eN 8)]) (cells_of (v := (eN 8)) rfl rfl) (parts_cons (vs := [(eN 4)]) (cells_of (v := (eN 4)) rfl rfl) parts_nil))) rfl) ?_
 refine wO (d_call (xl := [.tmp 6, .const (.slice none 0 0)]) (al := [(Value.agg #[(eN 6), (eN 8), (eN 4)]), (Value.slice none 0 0)]) Try.func28 kr rfl rfl rfl (new0_ok 6 8 4 _ oo oo oo)) ?_
 rintro _ w11 ⟨L13, rfl, ⟨a14, g15⟩, o12⟩
 have g_oW_L13 : ∀ k, L13.S k → W.heap.size ≤ k := fun k hk => Nat.le_trans oW.size (g15 k hk)
 replace a14 := a14.less (Y := No) no_old
 replace oW := oW.tail0 o12
 refine wI (d_move rfl) ?_
 refine wI (d_extract (v := (ptr L13.bN 0)) rfl rfl) ?_
 refine wF ([vF, undef, undef, undef, undef, (Value.tuple #[(ptr L13.bN 0), (eN 0)]), (Value.agg #[(eN 6), (eN 8), (eN 4)]), (Value.tuple #[(ptr L13.bN 0), (eN 0)]), (ptr L13.bN 0)] ++ (us 25)) ?_
 refine wI (d_extract (v := (eN 0)) rfl rfl) ?_
 refine wI (d_assign rfl) ?_
 refine wI (d_assign rfl) ?_
 refine wD (tN (wQ (wQ (pL ?_))))
 refine wI (d_move rfl) ?_
 refine wI (n_neq (a := 0) (b := 0) rfl rfl (by rw [decide_eq_true rfl] <;> rfl)) ?_
 refine wF ([vF, (ptr L13.bN 0), (eN 0), undef, undef, (Value.tuple #[(ptr L13.bN 0), (eN 0)]), (Value.agg #[(eN 6), (eN 8), (eN 4)]), (Value.tuple #[(ptr L13.bN 0), (eN 0)]), (ptr L13.bN 0), (eN 0), (eN 0), vF] ++ (us 22)) ?_
 refine wI (d_move rfl) ?_
 refine wG (d_move rfl) ?_
 refine wG (d_peql (b := L13.bN) (o := 0) Try.underlying44 rfl rfl) ?_
 refine wI (d_pick (b := false) (v := vF) rfl rfl) ?_
 refine wD (tN ?_)
 refine forget (fun zf16 => ([(zf16 0), (ptr L13.bN 0)] ++ (zs zf16 2 13 ++ [vF] ++ (zs zf16 16 18)))) kr (fun zf16 => ?_)
 refine cond_f rfl ?_
 refine wK (tN (wQ (pL ?_)))
 refine wI (d_move rfl) ?_
 refine wO (d_make1 (n := 6) Try.underlying23 s_ti3 rfl rfl oo oo rfl) ?_
 rintro _ w17 ⟨sb, rfl, g18, a19, o20⟩
 replace a19 : Arr 3 sb ((List.replicate 6 (0 : Int)).map eI) w17 := by rw [List.map_replicate]; exact a19
 have l_sb : (List.replicate 6 (0 : Int) : List Int).length = 6 := by simp
 have g_oW_sb : W.heap.size ≤ sb := Nat.le_trans oW.size g18
 replace a14 := a14.new o20 g18
 replace oW := oW.tail0 o20
 refine wO (d_call (xl := [.tmp 17, .tmp 18, .const (.int .i64 0)]) (al := [(ptr L13.bN 0), (sli sb 0 6 6), (eN 0)]) Try.func34 kr rfl rfl rfl (rowRead_ok L13 (NS.new 6 8 4 (fun _ _ => false)) _ a14 (lt_or1 a19.lt lt_no) (List.replicate 6 (0 : Int)) (sli sb 0 6 6) (arr_keep a19 l_sb (Nat.le_refl _) (nx_ors (a14.dis _ in1) (fun _ _ t => t.elim))) (by have := rep_len 6 (0 : Int); first | omega | (simp; done) | (simp; omega)) 0)) ?_
 rintro _ w21 ⟨v23, vs24, rfl, h25, h26, a27, o28⟩
 obtain ⟨l29, f30, f31⟩ := h25 ((reads_ok (bl := List.replicate 6 0) (p := 0) (rv_new (g := fun _ _ => false) rfl (D := 6) (B := 8) (Q := 4) (c := fun _ => 0) (fun _ _ => by decide)) (by simp) (fun _ _ => rep_at) (by decide)).1)
 replace f30 := f30.less (Y := (Or1 sb (Ors L13.S (Old W.heap.size)))) (or1_old a19.lt (ors_old a14.lt (old_old oW.size)))
 replace f31 := f31.less (Y := (Or1 sb (Ors L13.S (Old W.heap.size)))) (or1_old a19.lt (ors_old a14.lt (old_old oW.size)))
 replace a19 := a19.step o28 (a14.dis _ in1)
 replace oW := oW.tail o28 (fun k hk e => by have := g_oW_L13 k e; omega)
 replace a14 := a27
 refine wI (d_move rfl) ?_
 refine wI (d_extract (v := v23) rfl rfl) ?_
 refine wF ([(zf16 0), (ptr L13.bN 0)] ++ (zs zf16 2 13 ++ [vF, (Value.tuple #[v23, (eN (rowDoC (NS.new 6 8 4 (fun _ _ => false)).gD (List.replicate 6 (0 : Int)).length (rowRC (List.replicate 6 (0 : Int)) 0 (NS.new 6 8 4 (fun _ _ => false)))))]), (ptr L13.bN 0), (sli sb 0 6 6), (Value.tuple #[v23, (eN (rowDoC (NS.new 6 8 4 (fun _ _ => false)).gD (List.replicate 6 (0 : Int)).length (rowRC (List.replicate 6 (0 : Int)) 0 (NS.new 6 8 4 (fun _ _ => false)))))]), v23] ++ (zs zf16 21 13))) ?_
 refine wI (d_extract (v := (eN (rowDoC (NS.new 6 8 4 (fun _ _ => false)).gD (List.replicate 6 (0 : Int)).length (rowRC (List.replicate 6 (0 : Int)) 0 (NS.new 6 8 4 (fun _ _ => false)))))) rfl rfl) ?_
 refine wI (d_assign rfl) ?_
 refine wI (d_assign rfl) ?_
 refine wF ([(zf16 0), (ptr L13.bN 0), (zf16 2), v23, (eN (rowDoC (NS.new 6 8 4 (fun _ _ => false)).gD (List.replicate 6 (0 : Int)).length (rowRC (List.replicate 6 (0 : Int)) 0 (NS.new 6 8 4 (fun _ _ => false)))))] ++ (zs zf16 5 10 ++ [vF, (Value.tuple #[v23, (eN (rowDoC (NS.new 6 8 4 (fun _ _ => false)).gD (List.replicate 6 (0 : Int)).length (rowRC (List.replicate 6 (0 : Int)) 0 (NS.new 6 8 4 (fun _ _ => false)))))]), (ptr L13.bN 0), (sli sb 0 6 6), (Value.tuple #[v23, (eN (rowDoC (NS.new 6 8 4 (fun _ _ => false)).gD (List.replicate 6 (0 : Int)).length (rowRC (List.replicate 6 (0 : Int)) 0 (NS.new 6 8 4 (fun _ _ => false)))))]), v23, (eN (rowDoC (NS.new 6 8 4 (fun _ _ => false)).gD (List.replicate 6 (0 : Int)).length (rowRC (List.replicate 6 (0 : Int)) 0 (NS.new 6 8 4 (fun _ _ => false)))))] ++ (zs zf16 22 12))) ?_
 refine wD ?_
 have rv0 := rv_new (g := fun _ _ => false) rfl (D := 6) (B := 8) (Q := 4) (c := fun _ => 0) (fun _ _ => by decide)
 have rv_s1 := (reads_ok (bl := List.replicate 6 0) (p := 0) rv0 (by simp) (fun _ _ => rep_at) (by decide)).2.1
 obtain ⟨s1, e_s1⟩ : ∃ x_, rowDo (NS.new 6 8 4 (fun _ _ => false)).gD (List.replicate 6 (0 : Int)).length (rowR (List.replicate 6 (0 : Int)) 0 (NS.new 6 8 4 (fun _ _ => false))) (rowRC (List.replicate 6 (0 : Int)) 0 (NS.new 6 8 4 (fun _ _ => false))) = x_ := ⟨_, rfl⟩
 replace rv_s1 := rv_to rv_s1 e_s1
 replace a14 := nd_to a14 e_s1
 refine tN (wQ (pL ?_))
 refine wI (d_move rfl) ?_
 refine wI (n_eql (a := (rowDoC (NS.new 6 8 4 (fun _ _ => false)).gD (List.replicate 6 (0 : Int)).length (rowRC (List.replicate 6 (0 : Int)) 0 (NS.new 6 8 4 (fun _ _ => false))))) (b := 0) rfl rfl (decide_eq_true ((reads_ok (bl := List.replicate 6 0) (p := 0) rv0 (by simp) (fun _ _ => rep_at) (by decide)).1))) ?_
 refine wI (d_move rfl) ?_
 refine wG (d_move rfl) ?_
 refine wG (d_lenS rfl Try.underlying53 rfl f30) ?_
 refine wF ([(zf16 0), (ptr L13.bN 0), (zf16 2), v23, (eN (rowDoC (NS.new 6 8 4 (fun _ _ => false)).gD (List.replicate 6 (0 : Int)).length (rowRC (List.replicate 6 (0 : Int)) 0 (NS.new 6 8 4 (fun _ _ => false)))))] ++ (zs zf16 5 10 ++ [vF, (Value.tuple #[v23, (eN (rowDoC (NS.new 6 8 4 (fun _ _ => false)).gD (List.replicate 6 (0 : Int)).length (rowRC (List.replicate 6 (0 : Int)) 0 (NS.new 6 8 4 (fun _ _ => false)))))]), (ptr L13.bN 0), (sli sb 0 6 6), (Value.tuple #[v23, (eN (rowDoC (NS.new 6 8 4 (fun _ _ => false)).gD (List.replicate 6 (0 : Int)).length (rowRC (List.replicate 6 (0 : Int)) 0 (NS.new 6 8 4 (fun _ _ => false)))))]), v23, (eN (rowDoC (NS.new 6 8 4 (fun _ _ => false)).gD (List.replicate 6 (0 : Int)).length (rowRC (List.replicate 6 (0 : Int)) 0 (NS.new 6 8 4 (fun _ _ => false))))), (eN (rowDoC (NS.new 6 8 4 (fun _ _ => false)).gD (List.replicate 6 (0 : Int)).length (rowRC (List.replicate 6 (0 : Int)) 0 (NS.new 6 8 4 (fun _ _ => false))))), vT, vT, v23, (eN ((pgRow (fun k_ => (pgD (rowRL (List.replicate 6 (0 : Int)) 0 (NS.new 6 8 4 (fun _ _ => false)) k_)).1) vs24).length))] ++ (zs zf16 27 7))) ?_
 refine wG (n_eql (a := ((pgRow (fun k_ => (pgD (rowRL (List.replicate 6 (0 : Int)) 0 (NS.new 6 8 4 (fun _ _ => false)) k_)).1) vs24).length)) (b := 6) rfl rfl (decide_eq_true (by rw [pgRow_len, l29]; rfl))) ?_
 refine wI (d_pick (b := true) (v := vT) rfl rfl) ?_
 refine wI (d_move rfl) ?_
 refine wG (d_move rfl) ?_
 refine wpL.on rfl rfl rfl (nb rfl) rfl (d_call (xl := [.tmp 30, .const (.slice none 0 0), .const (.int .i64 0), .const (.slice none 0 0)]) (al := [(ptr L13.bN 0), (Value.slice none 0 0), (eN 0), (Value.slice none 0 0)]) Try.func32 kr rfl rfl rfl (rowWrite_ok L13 s1 _ a14 (lt_or1 a19.lt lt_no) ([] : List Int) (Value.slice none 0 0) seq_nil fo 0 0 [] (fun _ => []) (Value.slice none 0 0) seq_nil fam_zero rfl (fun _ => Nat.zero_le _))) ?_
 rintro _ w32 ⟨rfl, a34, o33⟩
 replace a19 := a19.step o33 (a14.dis _ in1)
 replace f30 := f30.step o33 (sub2 sub1)
 replace f31 := f31.step o33 (sub2 sub1)
 replace oW := oW.tail o33 (fun k hk e => by have := g_oW_L13 k e; omega)
 replace a14 := a34
 refine wF ([(zf16 0), (ptr L13.bN 0), (zf16 2), v23, (eN (rowDoC (NS.new 6 8 4 (fun _ _ => false)).gD (List.replicate 6 (0 : Int)).length (rowRC (List.replicate 6 (0 : Int)) 0 (NS.new 6 8 4 (fun _ _ => false)))))] ++ (zs zf16 5 10 ++ [vF, (Value.tuple #[v23, (eN (rowDoC (NS.new 6 8 4 (fun _ _ => false)).gD (List.replicate 6 (0 : Int)).length (rowRC (List.replicate 6 (0 : Int)) 0 (NS.new 6 8 4 (fun _ _ => false)))))]), (ptr L13.bN 0), (sli sb 0 6 6), (Value.tuple #[v23, (eN (rowDoC (NS.new 6 8 4 (fun _ _ => false)).gD (List.replicate 6 (0 : Int)).length (rowRC (List.replicate 6 (0 : Int)) 0 (NS.new 6 8 4 (fun _ _ => false)))))]), v23, (eN (rowDoC (NS.new 6 8 4 (fun _ _ => false)).gD (List.replicate 6 (0 : Int)).length (rowRC (List.replicate 6 (0 : Int)) 0 (NS.new 6 8 4 (fun _ _ => false))))), (eN (rowDoC (NS.new 6 8 4 (fun _ _ => false)).gD (List.replicate 6 (0 : Int)).length (rowRC (List.replicate 6 (0 : Int)) 0 (NS.new 6 8 4 (fun _ _ => false))))), vT, vT, v23, (eN ((pgRow (fun k_ => (pgD (rowRL (List.replicate 6 (0 : Int)) 0 (NS.new 6 8 4 (fun _ _ => false)) k_)).1) vs24).length)), vT, vT, vT, (ptr L13.bN 0), (eN (rowWC s1 ([] : List Int) 0 (fun _ => []) 0)), (zf16 32), (zf16 33)])) ?_
 refine wG (n_eql (a := (rowWC s1 ([] : List Int) 0 (fun _ => []) 0)) (b := 1) rfl rfl (decide_eq_true ((write_shape (fun h_ => by have h2_ := h_.2; rw [rv_s1.ct.gD] at h2_; cases h2_) _ _).1))) ?_
 refine wI (d_pick (b := true) (v := vT) rfl rfl) ?_
 refine wI (d_assign rfl) ?_
 refine wD (tN ?_)
 refine forget (fun zf35 => ([vT] ++ (zs zf35 1 33))) kr (fun zf35 => ?_)
 refine wpIn_ret ?_
 refine leave0 (v := vT) (res1 Try.results27 rfl) ?_
 exact ⟨rfl, oW⟩
end Go.Proofs.YtgalehapmdabeaaF
namespace Go.Proofs.YtgalehapmdabeaaF
open Go Shelf YtgalehapmdabeaaS Ram
def ofN (L : List Nat) : List Int := L.map fun (k : Nat) => (k : Int)
theorem seq_ofN {X : Nat → Prop} {L : List Nat} {u : Value} {w : World} (h : Ps X (Seq kN L u) w) : Ps X (Seq kI (ofN L) u) w := h.imp fun w' h' => by
 obtain ⟨A, c, hu, hc, hel⟩ := h'
 refine ⟨A, c, by rw [hu]; simp [ofN], by simpa [ofN] using hc, fun i x hx => ?_⟩
 unfold ofN at hx
 rw [List.getElem?_map] at hx
 cases hq : L[i]? with
 | none => rw [hq] at hx; cases hx
 | some y =>
  rw [hq] at hx
  injection hx with hx
  subst hx
  exact hel i y hq
theorem ofN_len (L : List Nat) : (ofN L).length = L.length := by simp [ofN]
theorem flipI_ofN : ∀ (L : List Nat) (w : List UInt8), (∀ k ∈ L, k < 8 * w.length) → flipI w (ofN L) = flipL w L
 | [], w, _ => rfl
 | k :: L, w, h => by
  have hk := h k (List.mem_cons_self ..)
  have e : flI w (k : Int) = flip1 w k := by
   unfold flI
   rw [if_pos ⟨by omega, by omega⟩]
   rfl
  show flipI (flI w (k : Int)) (ofN L) = flipL (flip1 w k) L
  rw [e]
  exact flipI_ofN L (flip1 w k) fun k' hk' => by rw [flip1_length]; exact h k' (List.mem_cons_of_mem _ hk')
theorem pgD_noise {d : List UInt8} (hd : d.length = 48) (ln : List Int) {most : Nat} (h5 : most ≤ 5) : (pgD (flipI (pgE d) (ofN (noiseL ln most))) = (2, d) ∨ pgD (flipI (pgE d) (ofN (noiseL ln most))) = (1, []) ∧ 3 < most) := by
 have h1 : flipI (pgE d) (ofN (noiseL ln most)) = flipL (pgE d) (noiseL ln most ++ placesL [] 32 16) := by
  rw [flipI_ofN _ _ fun k hk => by have := noise_in ln most k hk; rw [pgE_length hd]; omega, show placesL [] 32 16 = [] from rfl, List.append_nil]
 rw [h1, pg_mends hd ln [] h5]
 split
 ·rename_i h
  refine .inr ⟨rfl, ?_⟩
  have a1 := places_le ln 224 most
  have a2 := places_le (hfL ln) 224 most
  omega
 ·exact .inl rfl
theorem b6_at : ∀ d, d < 6 → ([1, 2, 3, 4, 5, 6] : List Int).getD d 0 = ((d + 1 : Nat) : Int) := by decide
def BackR (s : NS) (nx : Nat) (lb : List UInt8) (z : Nat → Nat → List Int) : Prop := ∃ o, RowV s 6 8 4 0 [] false o 0 (fun d => d + 1) (fun _ => nx) (fun j q => if q < nx then pgE (plD lb 6 j) else onesW) z
section
variable {s : NS} {nx p d : Nat} {lb : List UInt8} {z : Nat → Nat → List Int}
theorem backR_to {s' : NS} (h : BackR s nx lb z) (e : s = s') : BackR s' nx lb z := e ▸ h
theorem backR_new (lb : List UInt8) : BackR (NS.new 6 8 4 fun _ _ => false) 0 lb (fun _ _ => []) := ⟨0, (rv_new (g := fun _ _ => false) rfl (c := fun d => d + 1) (fun d hd => by omega)).to (fun _ _ => rfl) (fun d q _ _ => (if_neg (Nat.not_lt_zero q)).symm) (fun _ _ _ _ => rfl)⟩
theorem backR_write (h : BackR s nx lb z) (h4 : nx < 4) : rowWC s [1, 2, 3, 4, 5, 6] (nx : Int) (plD lb 6) 6 = 0 ∧ BackR (rowWS s [1, 2, 3, 4, 5, 6] (nx : Int) (plD lb 6) 6) (nx + 1) lb z := by
 obtain ⟨o, h⟩ := h
 obtain ⟨h1, h2⟩ := write_ok (bl := [1, 2, 3, 4, 5, 6]) (pl := plD lb 6) h rfl b6_at h4 (fun d hd => plD_len lb hd) (fun _ _ => rfl)
 refine ⟨h1, _, h2.to (fun _ _ => rfl) (fun d q _ _ => ?_) (fun _ _ _ _ => rfl)⟩
 show (if q = nx then pgE (plD lb 6 d) else if q < nx then pgE (plD lb 6 d) else onesW) = if q < nx + 1 then pgE (plD lb 6 d) else onesW
 by_cases hq : q = nx
 ·rw [if_pos hq, if_pos (by omega)]
 ·rw [if_neg hq]
  by_cases h5 : q < nx
  ·rw [if_pos h5, if_pos (by omega)]
  ·rw [if_neg h5, if_neg (by omega)]
theorem noise_other {D B Q k nx2 b b' d' : Nat} {m : List UInt8} {x bad bad' : Bool} {o w er er' : Int} {f f' : Nat → List UInt8} {z z' : Nat → List Int} {ll : List Int} (hc : Ctl s D B Q k m x o w) (hv : Bv s d b nx er bad f z) (hv2 : Bv s d' b' nx2 er' bad' f' z') (hn : ¬ d' = d) (hp : p < Q) : Bv (s.noise (d : Nat) (b : Nat) (p : Nat) ll) d' b' nx2 er' bad' f' z' := by
 have hp' : p < s.gP := by rw [hc.gP]; exact hp
 have h' : s.pageIn (d : Nat) (b : Nat) (p : Nat) = true := by rw [bv_page hv]; exact decide_eq_true hp'
 have e : s.noise (d : Nat) (b : Nat) (p : Nat) ll = s.setZ (s.ix d b p) ll := by unfold NS.noise; rw [if_pos h', Int.toNat_natCast, Int.toNat_natCast, Int.toNat_natCast]
 rw [e]
 refine ⟨hv2.dd, hv2.bb, hv2.nx, hv2.er, hv2.bad, fun q hq => hv2.f q hq, fun q hq => ?_⟩
 show (if s.ix d' b' q = s.ix d b p then ll else s.nl (s.ix d' b' q)) = z' q
 rw [if_neg fun h => hn (ix_inj hv2.bb hv.bb hq hp' h).1]
 exact hv2.z q hq
def zR (ln : List Int) (hv rr d j q : Nat) : List Int := if j < d ∧ q = rr then ofN (noiseL ln (if j = hv then 5 else 3)) else []
theorem backR_noise {ln : List Int} {hv rr : Nat} (h : BackR s nx lb (zR ln hv rr d)) (hd : d < 6) (hr : rr < 4) : s.noiseR (d : Int) ((d + 1 : Nat) : Int) (rr : Int) = 0 ∧ BackR (s.noise (d : Int) ((d + 1 : Nat) : Int) (rr : Int) (ofN (noiseL ln (if d = hv then 5 else 3)))) nx lb (zR ln hv rr (d + 1)) := by
 obtain ⟨o, h⟩ := h
 obtain ⟨er, hv1⟩ := h.v d hd
 obtain ⟨h1, h2, h3⟩ := noise_yes (ll := ofN (noiseL ln (if d = hv then 5 else 3))) h.ct hv1 hr
 refine ⟨h1, o, h2, fun j hj => ?_⟩
 by_cases ej : j = d
 ·subst ej
  refine ⟨er, Bv.to h3 rfl (fun _ _ => rfl) (fun q _ => ?_)⟩
  show (if q = rr then ofN (noiseL ln (if j = hv then 5 else 3)) else zR ln hv rr j j q) = zR ln hv rr (j + 1) j q
  unfold zR
  by_cases e : q = rr
  ·rw [if_pos e]
   exact (if_pos (show j < j + 1 ∧ q = rr from ⟨by omega, e⟩)).symm
  ·rw [if_neg e, if_neg (fun h => e h.2), if_neg (fun h => e h.2)]
 ·obtain ⟨er2, hv2⟩ := h.v j hj
  refine ⟨er2, Bv.to (noise_other h.ct hv1 hv2 ej hr) rfl (fun _ _ => rfl) (fun q _ => ?_)⟩
  show zR ln hv rr d j q = zR ln hv rr (d + 1) j q
  unfold zR
  by_cases e : j < d ∧ q = rr
  ·rw [if_pos e]
   exact (if_pos (show j < d + 1 ∧ q = rr from ⟨by omega, e.2⟩)).symm
  ·rw [if_neg e]
   exact (if_neg (show ¬ (j < d + 1 ∧ q = rr) from fun h => e ⟨by omega, h.2⟩)).symm
theorem backR_read {ln : List Int} {hv rr : Nat} (h : BackR s (rr + 1) lb (zR ln hv rr 6)) (hr : rr < 4) : rowDoC s.gD [(1 : Int), 2, 3, 4, 5, 6].length (rowRC [1, 2, 3, 4, 5, 6] (rr : Int) s) = 0 ∧ BackR (rowDo s.gD [(1 : Int), 2, 3, 4, 5, 6].length (rowR [1, 2, 3, 4, 5, 6] (rr : Int) s) (rowRC [1, 2, 3, 4, 5, 6] (rr : Int) s)) (rr + 1) lb (zR ln hv rr 6) ∧
  ∀ j, j < 6 → pgD (rowRL [1, 2, 3, 4, 5, 6] (rr : Int) s j) = (2, plD lb 6 j) ∨ pgD (rowRL [1, 2, 3, 4, 5, 6] (rr : Int) s j) = (1, []) ∧ j = hv := by
 obtain ⟨o, h⟩ := h
 obtain ⟨h1, h2, h3⟩ := reads_ok (bl := [1, 2, 3, 4, 5, 6]) h rfl b6_at hr
 refine ⟨h1, ⟨_, h2⟩, fun j hj => ?_⟩
 rw [h3 j hj]
 show pgD (flipI (if rr < rr + 1 then pgE (plD lb 6 j) else onesW) (zR ln hv rr 6 j rr)) = _ ∨ pgD (flipI (if rr < rr + 1 then pgE (plD lb 6 j) else onesW) (zR ln hv rr 6 j rr)) = _ ∧ _
 unfold zR
 rw [if_pos (Nat.lt_succ_self rr), if_pos ⟨hj, rfl⟩]
 rcases pgD_noise (plD_len lb hj) ln (most := if j = hv then 5 else 3) (by split <;> omega) with h4 | ⟨h4, h5⟩
 ·exact .inl h4
 ·refine .inr ⟨h4, ?_⟩
  by_cases e : j = hv
  ·exact e
  ·rw [if_neg e] at h5; omega
theorem backR_wrong (h : BackR s nx lb z) : s.wrong = 0 := by obtain ⟨o, h⟩ := h; exact h.ct.wr
end
end Go.Proofs.YtgalehapmdabeaaF
set_option maxRecDepth 20000
set_option maxHeartbeats 4000000
namespace Go.Proofs.YtgalehapmdabeaaF
open Go Shelf YtgalehapmdabeaaS Ram
theorem l8noise_ok (la : List Int) (m : Nat) (u1 : Value) (W : World) (h1 : Ps No (Seq kI la u1) W) (gm : m ≤ 1000) (gl : la.length ≤ 17592186043904) :
    CW Try.prog 23 #[u1, (eN m)] W (Rt (ROw 3 eN (noiseL la m) W)) := by
 have oW : Only No W W := Only.refl _ _
 refine enter (al := [u1, (eN m)]) (k := 59) (l := ([u1, (eN m)] ++ (us 59))) Try.func23 rfl Try.ntmps23 rfl rfl ?_
 refine wQ (pL ?_)
 refine wI (d_assign rfl) ?_
 refine wD (tN (wQ ?_))
 refine wp_eq (l' := ([u1, (eN m), undef, undef, (Value.slice none 0 0)] ++ (us 56))) rfl ?_
 refine pL ?_
 refine wI (d_assign rfl) ?_
 refine wF ([u1, (eN m), undef, undef, (Value.slice none 0 0), (Value.slice none 0 0)] ++ (us 55)) ?_
 refine wD ?_
 have a11 : Ow 3 1 none (Value.slice none 0 0) ([] : List (Nat)).length (([] : List (Nat)).map eN) W := Ow.nil _ _ _
 have q_oW_out : Fr none none W.heap.size := Fr.none
 replace h1 := h1.qnone
 refine tN (wQ (pL ?_))
 refine wI (d_move rfl) ?_
 refine wI (d_move rfl) ?_
 refine wO (d_call (xl := [.tmp 12, .const (.int .i64 224), .tmp 13]) (al := [u1, (eN 224), (eN m)]) Try.func19 kr rfl rfl rfl (l4Places_ok la 224 m u1 _ (Ps.no h1) oo oo oo oo)) ?_
 rintro u14 w12 f15
 replace f15 := f15.ps
 obtain ⟨f15, o13⟩ := f15
 replace f15 := f15.less (Y := (Orq none (Old W.heap.size))) (orq_old a11.lts (old_old oW.size))
 replace h1 := h1.step0 o13
 replace a11 := a11.step0 o13
 replace oW := oW.tail0 o13
 refine wI (d_assign rfl) ?_
 refine wD (tN (wQ ?_))
 refine wp_eq (l' := ([u1, (eN m), undef, undef, (Value.slice none 0 0), (Value.slice none 0 0), u14] ++ (us 5 ++ [u1, (eN m), u14] ++ (us 46)))) rfl ?_
 refine pL ?_
 refine wI (d_assign rfl) ?_
 refine wF ([u1, (eN m), undef, undef, (Value.slice none 0 0), (Value.slice none 0 0), u14, (Value.slice none 0 0), undef, undef, undef, undef, u1, (eN m), u14] ++ (us 46)) ?_
 refine wD ?_
 have a16 : Ow 3 1 none (Value.slice none 0 0) ([] : List (Int)).length (([] : List (Int)).map eI) w12 := Ow.nil _ _ _
 have nqq_out_half : ∀ x, none = some x → (none : Option Nat) = some x → False := fun _ _ e => by cases e
 have q_oW_half : Fr none none W.heap.size := Fr.none
 replace h1 := h1.qnone
 replace f15 := f15.qnone
 refine tN (wQ (wQ (pL ?_)))
 refine wI (d_assign rfl) ?_
 refine wD (tN (wB ?_))
 have h_lts_out := a11.lts
 have h_lts_half := a16.lts
 refine loop2 (fun (s_ : (Nat) × (Option Nat) × (Value)) => match s_ with | ⟨i, bo_half, u_half⟩ => fun (z : Nat → Value) => (([u1, (eN m), undef, undef, (Value.slice none 0 0), (Value.slice none 0 0), u14, u_half, (eN i), undef, undef, undef, u1, (eN m), u14] ++ (zs z 15 14 ++ (us 32))) : List Value)) (fun (s_ : (Nat) × (Option Nat) × (Value)) => match s_ with | ⟨i, bo_half, u_half⟩ => fun (w_ : World) => (i ≤ la.length) ∧ Only (Orq none (Orq none No)) w12 w_ ∧ Ow 3 1 none (Value.slice none 0 0) (([] : List (Nat))).length ((([] : List (Nat))).map eN) w_ ∧ Ow 3 1 bo_half u_half (hfL (la.take i)).length ((hfL (la.take i)).map eI) w_ ∧ Fr bo_half none w12.heap.size) (fun (s_ : (Nat) × (Option Nat) × (Value)) => match s_ with | ⟨i, bo_half, u_half⟩ => la.length - i) ⟨0, none, (Value.slice none 0 0)⟩ kr ?_ ?_
 ·
  refine ⟨?_, ?_, ?_, ?_, ?_⟩
  ·
   exact Nat.zero_le _
  ·
   exact Only.refl _ _
  ·
   exact a11
  ·
   exact a16
  ·
   exact Fr.same
 rintro ⟨i, bo_half, u_half⟩ z w18 ⟨hi, o17, a11, a16, qq_half⟩
 (try dsimp only)
 replace h1 := h1.re o17 (orq_mono (orq_mono no_any)) (xx_re qq_half (xx_orq xx_id))
 replace f15 := f15.re o17 (orq_mono (orq_mono no_any)) (xx_re qq_half (xx_orq xx_id))
 have tq_oW := oW.size
 replace oW := oW.tail o17 (tl_q q_oW_half (fun _ e => by cases e) (tl_q q_oW_out (fun _ e => by cases e) tl_no))
 replace q_oW_half := qtr qq_half q_oW_half tq_oW
 replace nqq_out_half := nqq_step nqq_out_half qq_half h_lts_out
 have q_o17_out : Fr none none w12.heap.size := Fr.same
 have q_o17_half := qq_half
 refine wQ (wQ (pL ?_))
 refine wI (d_move rfl) ?_
 refine wI (d_move rfl) ?_
 refine wI (d_lenS rfl Try.underlying23 rfl h1) ?_
 refine wI (n_lss (a := i) (b := la.length) rfl rfl rfl) ?_
 refine wD (tN ?_)
 refine cond_if rfl (fun c1 => ?_) (fun c1 => ?_)
 ·
  refine wK (tN (wQ (wB (pL ?_))))
  refine wI (d_move rfl) ?_
  refine wF ([u1, (eN m), undef, undef, (Value.slice none 0 0), (Value.slice none 0 0), u14, u_half, (eN i), undef, undef, undef, u1, (eN m), u14, (eN i), u1, (eN la.length), (Value.bool (decide (i < la.length))), (z 19), (z 20), u_half] ++ (zs z 22 7 ++ (us 32))) ?_
  refine wI (d_move rfl) ?_
  refine wI (d_move rfl) ?_
  refine wI (d_ix (i := i) (xs := la) Try.underlying23 s_ti3 rfl h1 (show _ = Value.int _ (i : Int) from rfl) fo) ?_
  refine wI (d_ldx (i := i) (xs := la) (enc := eI) (v := (la.getD i 0)) ⟨_, Try.underlying3, rfl⟩ rfl h1 (g_at fo)) ?_
  refine wI (d_quo (k := .i64) (m := (la.getD i 0)) (n := 224) rfl rfl (by decide) rfl) ?_
  refine wF ([u1, (eN m), undef, undef, (Value.slice none 0 0), (Value.slice none 0 0), u14, u_half, (eN i), undef, undef, undef, u1, (eN m), u14, (eN i), u1, (eN la.length), (Value.bool (decide (i < la.length))), (z 19), (z 20), u_half, u1, (eN i), (ixp u1 i), (eI (la.getD i 0)), (eI (IntKind.i64.wrap (Int.tdiv (la.getD i 0) 224))), (z 27), (z 28)] ++ (us 32)) ?_
  refine wO (d_buildL (cs := [(eI (IntKind.i64.wrap (Int.tdiv (la.getD i 0) 224)))]) Try.underlying23 s_ti3 rfl (nb rfl) (parts_cons (vs := [(eI (IntKind.i64.wrap (Int.tdiv (la.getD i 0) 224)))]) (cells_of (v := (eI (IntKind.i64.wrap (Int.tdiv (la.getD i 0) 224)))) rfl rfl) parts_nil) rfl) ?_
  rintro _ w20 ⟨b19, rfl, g21, a22, o23⟩
  replace a22 : Arr 3 b19 (([IntKind.i64.wrap (Int.tdiv (la.getD i 0) 224)] : List Int).map eI) w20 := a22
  have l_b19 : ([IntKind.i64.wrap (Int.tdiv (la.getD i 0) 224)] : List Int).length = 1 := rfl
  have nq_out_b19 : ∀ x, none = some x → ¬ x = b19 := fun x hx e => by have := a11.lts x hx; omega
  have nq_half_b19 : ∀ x, bo_half = some x → ¬ x = b19 := fun x hx e => by have := a16.lts x hx; omega
  have g_oW_b19 : W.heap.size ≤ b19 := Nat.le_trans oW.size g21
  have g_o17_b19 : w12.heap.size ≤ b19 := Nat.le_trans o17.size g21
  replace h1 := h1.new o23 g21
  replace f15 := f15.new o23 g21
  replace a11 := a11.step0 o23
  replace a16 := a16.step0 o23
  replace oW := oW.tail0 o23
  replace o17 := o17.tail0 o23
  refine wO (d_append Try.underlying23 Try.underlying23 s_ti3 rfl rfl rfl a16 (SrcV.of_seq (arr_seq a22 l_b19 (Nat.le_refl _)) (fun _ => rfl)) (by simp only [hfL_length, List.length_take, List.length_singleton]; omega) (by simp only [hfL_length, List.length_take, List.length_singleton]; omega) rfl) ?_
  rintro u24 w25 ⟨bo26, a27, o28, q29⟩
  replace a27 : Ow 3 1 bo26 u24 ((hfL (la.take i)) ++ ([IntKind.i64.wrap (Int.tdiv (la.getD i 0) 224)] : List Int)).length (((hfL (la.take i)) ++ ([IntKind.i64.wrap (Int.tdiv (la.getD i 0) 224)] : List Int)).map eI) w25 := by rw [List.length_append, List.map_append]; exact a27
  replace h1 := h1.gr o28 (fun k e => (.inr (.inl e))) (xx_or1 (xx_re (Fr.of_or q29) (xx_orq xx_id)))
  replace f15 := f15.gr o28 (fun k e => (.inr (.inl e))) (xx_or1 (xx_re (Fr.of_or q29) (xx_orq xx_id)))
  have nq2 := nqs nq_half_b19 (Fr.of_or q29) a22.lt
  replace a22 := a22.step o28 (fun e => nq_half_b19 _ e rfl)
  replace nq_half_b19 := nq2
  clear nq2
  have lt2 := a11.lts
  replace a11 := a11.step o28 (fun x hx e => nqq_out_half x hx e)
  replace nqq_out_half := nqq_step nqq_out_half (Fr.of_or q29) lt2
  clear lt2
  have tq := oW.size
  replace oW := oW.tailr o28 q_oW_half (fun _ e => by cases e)
  replace q_oW_half := qtr (Fr.of_or q29) q_oW_half tq
  clear tq
  have tq := o17.size
  replace o17 := o17.tailr o28 q_o17_half (fun k e => (.inl e))
  replace q_o17_half := qtr (Fr.of_or q29) q_o17_half tq
  clear tq
  refine wI (d_assign rfl) ?_
  refine wD ?_
  refine inb_n (tN ?_)
  refine forget (fun zf30 => ([u1, (eN m), undef, undef, (Value.slice none 0 0), (Value.slice none 0 0), u14, u24, (eN i), undef, undef, undef, u1, (eN m), u14] ++ (zs zf30 15 14 ++ (us 32)))) kr (fun zf30 => ?_)
  refine pL ?_
  refine wI (d_move rfl) ?_
  refine wI (n_add (a := i) (b := 1) rfl rfl oo) ?_
  refine wI (d_assign rfl) ?_
  refine wD (tN ?_)
  refine ⟨_, ⟨i + 1, bo26, u24⟩, rfl, kr, ⟨?_, ?_, ?_, ?_, ?_⟩, ?_⟩
  ·
   (try dsimp only)
   all_goals (omega)
  ·
   exact o17
  ·
   exact a11
  ·
   (try dsimp only)
   all_goals (rw [hfL_next c1] at a27; exact a27)
  ·
   exact q_o17_half
  ·
   (try dsimp only)
   all_goals (omega)
 refine wpIn_exit ?_
 refine then_x (then_x (inb_e ?_))
 refine tN ?_
 refine forget (fun zf31 => ([(zf31 0), (eN m), (zf31 2), (zf31 3), (zf31 4), (Value.slice none 0 0), u14, u_half, (eN i), (zf31 9), undef, undef] ++ (zs zf31 12 49))) kr (fun zf31 => ?_)
 refine wQ ?_
 have ht_half : la.take i = la := List.take_of_length_le oo
 rw [ht_half] at a16
 have hh_ := hfL_length la
 refine pL ?_
 refine wI (d_move rfl) ?_
 refine wI (d_move rfl) ?_
 refine wO (d_call (xl := [.tmp 29, .const (.int .i64 224), .tmp 30]) (al := [u_half, (eN 224), (eN m)]) Try.func19 kr rfl rfl rfl (l4Places_ok (hfL la) 224 m u_half _ (Ps.no (a16.seq (X := No) (fun _ _ h => h))) oo oo oo oo)) ?_
 rintro u34 w32 f35
 replace f35 := f35.ps
 obtain ⟨f35, o33⟩ := f35
 replace f35 := f35.less (Y := (Orq bo_half (Orq none (Old W.heap.size)))) (orq_old a16.lts (orq_old a11.lts (old_old oW.size)))
 replace h1 := h1.step0 o33
 replace f15 := f15.step0 o33
 replace a11 := a11.step0 o33
 replace a16 := a16.step0 o33
 replace oW := oW.tail0 o33
 replace o17 := o17.tail0 o33
 refine wI (d_assign rfl) ?_
 refine wD (tN (wQ (wQ (pL ?_))))
 refine wI (d_assign rfl) ?_
 refine wF ([(zf31 0), (eN m), (zf31 2), (zf31 3), (zf31 4), (Value.slice none 0 0), u14, u_half, (eN i), u34, (eN 0), undef] ++ (zs zf31 12 17 ++ [u_half, (eN m), u34] ++ (zs zf31 32 29))) ?_
 refine wD (tN (wB ?_))
 have h_lts_out := a11.lts
 have h_lts_half := a16.lts
 refine loop2 (fun (s_ : (Nat) × (Option Nat) × (Value)) => match s_ with | ⟨j, bo_out, u_out⟩ => fun (z : Nat → Value) => (([(zf31 0), (eN m), (zf31 2), (zf31 3), (zf31 4), u_out, u14, u_half, (eN i), u34, (eN j), undef] ++ (zs zf31 12 17 ++ [u_half, (eN m), u34] ++ (zs z 32 14 ++ (zs zf31 46 15)))) : List Value)) (fun (s_ : (Nat) × (Option Nat) × (Value)) => match s_ with | ⟨j, bo_out, u_out⟩ => fun (w_ : World) => (j ≤ (placesL la 224 m).length) ∧ Only (Orq bo_half (Orq none No)) w32 w_ ∧ Ow 3 1 bo_out u_out (((placesL la 224 m).take j).map (32 + ·)).length ((((placesL la 224 m).take j).map (32 + ·)).map eN) w_ ∧ Fr bo_out none w32.heap.size ∧ Ow 3 1 bo_half u_half (hfL la).length ((hfL la).map eI) w_) (fun (s_ : (Nat) × (Option Nat) × (Value)) => match s_ with | ⟨j, bo_out, u_out⟩ => (placesL la 224 m).length - j) ⟨0, none, (Value.slice none 0 0)⟩ rfl ?_ ?_
 ·
  refine ⟨?_, ?_, ?_, ?_, ?_⟩
  ·
   exact Nat.zero_le _
  ·
   exact Only.refl _ _
  ·
   exact a11
  ·
   exact Fr.same
  ·
   exact a16
 rintro ⟨j, bo_out, u_out⟩ z w37 ⟨hj, o36, a11, qq_out, a16⟩
 (try dsimp only)
 replace h1 := h1.re o36 (orq_mono (orq_mono no_any)) (xx_orq (xx_re qq_out xx_id))
 replace f15 := f15.re o36 (orq_mono (orq_mono no_any)) (xx_orq (xx_re qq_out xx_id))
 replace f35 := f35.re o36 (orq_mono (orq_mono no_any)) (xx_orq (xx_re qq_out xx_id))
 have tq_oW := oW.size
 replace oW := oW.tail o36 (tl_q q_oW_half (fun _ e => by cases e) (tl_q q_oW_out (fun _ e => by cases e) tl_no))
 replace q_oW_out := qtr qq_out q_oW_out tq_oW
 have tq_o17 := o17.size
 replace o17 := o17.tail o36 (tl_q q_o17_half (fun k e => (.inl e)) (tl_q q_o17_out (fun k e => (.inr (.inl e))) tl_no))
 replace q_o17_out := qtr qq_out q_o17_out tq_o17
 replace nqq_out_half := fun x h1 h2 => nqq_step (fun x h1 h2 => nqq_out_half x h2 h1) qq_out h_lts_half x h2 h1
 have q_o36_out := qq_out
 have q_o36_half : Fr bo_half bo_half w32.heap.size := Fr.same
 refine wQ (wQ (pL ?_))
 refine wI (d_move rfl) ?_
 refine wI (d_move rfl) ?_
 refine wI (d_lenS rfl Try.underlying23 rfl f15) ?_
 refine wI (n_lss (a := j) (b := ((placesL la 224 m).length)) rfl rfl rfl) ?_
 refine wD (tN ?_)
 refine cond_if rfl (fun c2 => ?_) (fun c2 => ?_)
 ·
  have hm_ := getD_lt (places_in la m (show 0 < 224 by decide)) c2
  have hn_ := places_le la 224 m
  refine wK (tN (wQ (wB (pL ?_))))
  refine wI (d_move rfl) ?_
  refine wF ([(zf31 0), (eN m), (zf31 2), (zf31 3), (zf31 4), u_out, u14, u_half, (eN i), u34, (eN j), undef] ++ (zs zf31 12 17 ++ [u_half, (eN m), u34, (eN j), u14, (eN ((placesL la 224 m).length)), (Value.bool (decide (j < ((placesL la 224 m).length)))), (z 36), (z 37), u_out] ++ (zs z 39 7 ++ (zs zf31 46 15)))) ?_
  refine wI (d_move rfl) ?_
  refine wI (d_move rfl) ?_
  refine wI (d_ix (i := j) (xs := (placesL la 224 m)) Try.underlying23 s_ti3 rfl f15 (show _ = Value.int _ (j : Int) from rfl) (by have := places_le la 224 m; first | omega | (simp; done) | (simp; omega))) ?_
  refine wI (d_ldx (i := j) (xs := (placesL la 224 m)) (enc := eN) (v := ((placesL la 224 m).getD j 0)) ⟨_, Try.underlying3, rfl⟩ rfl f15 (g_at (by have := places_le la 224 m; first | omega | (simp; done) | (simp; omega)))) ?_
  refine wI (n_add (a := 32) (b := ((placesL la 224 m).getD j 0)) rfl rfl oo) ?_
  refine wF ([(zf31 0), (eN m), (zf31 2), (zf31 3), (zf31 4), u_out, u14, u_half, (eN i), u34, (eN j), undef] ++ (zs zf31 12 17 ++ [u_half, (eN m), u34, (eN j), u14, (eN ((placesL la 224 m).length)), (Value.bool (decide (j < ((placesL la 224 m).length)))), (z 36), (z 37), u_out, u14, (eN j), (ixp u14 j), (eN ((placesL la 224 m).getD j 0)), (eN (32 + ((placesL la 224 m).getD j 0))), (z 44), (z 45)] ++ (zs zf31 46 15))) ?_
  refine wO (d_buildL (cs := [(eN (32 + ((placesL la 224 m).getD j 0)))]) Try.underlying23 s_ti3 rfl (nb rfl) (parts_cons (vs := [(eN (32 + ((placesL la 224 m).getD j 0)))]) (cells_of (v := (eN (32 + ((placesL la 224 m).getD j 0)))) rfl rfl) parts_nil) rfl) ?_
  rintro _ w39 ⟨b38, rfl, g40, a41, o42⟩
  replace a41 : Arr 3 b38 (([32 + ((placesL la 224 m).getD j 0)] : List Nat).map eN) w39 := a41
  have l_b38 : ([32 + ((placesL la 224 m).getD j 0)] : List Nat).length = 1 := rfl
  have nq_out_b38 : ∀ x, bo_out = some x → ¬ x = b38 := fun x hx e => by have := a11.lts x hx; omega
  have nq_half_b38 : ∀ x, bo_half = some x → ¬ x = b38 := fun x hx e => by have := a16.lts x hx; omega
  have g_oW_b38 : W.heap.size ≤ b38 := Nat.le_trans oW.size g40
  have g_o17_b38 : w12.heap.size ≤ b38 := Nat.le_trans o17.size g40
  have g_o36_b38 : w32.heap.size ≤ b38 := Nat.le_trans o36.size g40
  replace h1 := h1.new o42 g40
  replace f15 := f15.new o42 g40
  replace f35 := f35.new o42 g40
  replace a11 := a11.step0 o42
  replace a16 := a16.step0 o42
  replace oW := oW.tail0 o42
  replace o17 := o17.tail0 o42
  replace o36 := o36.tail0 o42
  refine wO (d_append Try.underlying23 Try.underlying23 s_ti3 rfl rfl rfl a11 (SrcV.of_seq (arr_seq a41 l_b38 (Nat.le_refl _)) (fun _ => rfl)) (by simp only [List.length_map, List.length_take, List.length_singleton]; omega) (by simp only [List.length_map, List.length_take, List.length_singleton]; omega) rfl) ?_
  rintro u43 w44 ⟨bo45, a46, o47, q48⟩
  replace a46 : Ow 3 1 bo45 u43 ((((placesL la 224 m).take j).map (32 + ·)) ++ ([32 + ((placesL la 224 m).getD j 0)] : List Nat)).length (((((placesL la 224 m).take j).map (32 + ·)) ++ ([32 + ((placesL la 224 m).getD j 0)] : List Nat)).map eN) w44 := by rw [List.length_append, List.map_append]; exact a46
  replace h1 := h1.gr o47 (fun k e => (.inr (.inr (.inl e)))) (xx_or1 (xx_orq (xx_re (Fr.of_or q48) xx_id)))
  replace f15 := f15.gr o47 (fun k e => (.inr (.inr (.inl e)))) (xx_or1 (xx_orq (xx_re (Fr.of_or q48) xx_id)))
  replace f35 := f35.gr o47 (fun k e => (.inr (.inr (.inl e)))) (xx_or1 (xx_orq (xx_re (Fr.of_or q48) xx_id)))
  have nq2 := nqs nq_out_b38 (Fr.of_or q48) a41.lt
  replace a41 := a41.step o47 (fun e => nq_out_b38 _ e rfl)
  replace nq_out_b38 := nq2
  clear nq2
  have lt2 := a16.lts
  replace a16 := a16.step o47 (fun x hx e => nqq_out_half x e hx)
  replace nqq_out_half := fun x h1 h2 => nqq_step (fun x h1 h2 => nqq_out_half x h2 h1) (Fr.of_or q48) lt2 x h2 h1
  clear lt2
  have tq := oW.size
  replace oW := oW.tailr o47 q_oW_out (fun _ e => by cases e)
  replace q_oW_out := qtr (Fr.of_or q48) q_oW_out tq
  clear tq
  have tq := o17.size
  replace o17 := o17.tailr o47 q_o17_out (fun k e => (.inr (.inl e)))
  replace q_o17_out := qtr (Fr.of_or q48) q_o17_out tq
  clear tq
  have tq := o36.size
  replace o36 := o36.tailr o47 q_o36_out (fun k e => (.inr (.inl e)))
  replace q_o36_out := qtr (Fr.of_or q48) q_o36_out tq
  clear tq
  refine wI (d_assign rfl) ?_
  refine wD ?_
  refine inb_n (tN ?_)
  refine forget (fun zf49 => ([(zf31 0), (eN m), (zf31 2), (zf31 3), (zf31 4), u43, u14, u_half, (eN i), u34, (eN j), undef] ++ (zs zf31 12 17 ++ [u_half, (eN m), u34] ++ (zs zf49 32 14 ++ (zs zf31 46 15))))) kr (fun zf49 => ?_)
  refine pL ?_
  refine wI (d_move rfl) ?_
  refine wI (n_add (a := j) (b := 1) rfl rfl oo) ?_
  refine wI (d_assign rfl) ?_
  refine wD (tN ?_)
  refine ⟨_, ⟨j + 1, bo45, u43⟩, rfl, kr, ⟨?_, ?_, ?_, ?_, ?_⟩, ?_⟩
  ·
   (try dsimp only)
   all_goals (omega)
  ·
   exact o36
  ·
   (try dsimp only)
   all_goals (rw [map_next (f := (32 + ·)) c2] at a46; exact a46)
  ·
   exact q_o36_out
  ·
   exact a16
  ·
   (try dsimp only)
   all_goals (omega)
 refine wpIn_exit ?_
 refine then_x (then_x (inb_e ?_))
 refine tN ?_
 refine forget (fun zf50 => (zs zf50 0 5 ++ [u_out, (zf50 6), u_half, (eN i), u34, (eN j), undef] ++ (zs zf50 12 49))) kr (fun zf50 => ?_)
 refine wQ (wQ ?_)
 have ht_out : (placesL la 224 m).take j = (placesL la 224 m) := List.take_of_length_le oo
 rw [ht_out] at a11
 refine pL ?_
 refine wI (d_assign rfl) ?_
 refine wD (tN (wB ?_))
 have h_lts_out := a11.lts
 have h_lts_half := a16.lts
 refine loop2 (fun (s_ : (Nat) × (Option Nat) × (Value)) => match s_ with | ⟨k, bo_out2, u_out2⟩ => fun (z : Nat → Value) => ((zs zf50 0 5 ++ [u_out2, (zf50 6), u_half, (eN i), u34, (eN j), (eN k)] ++ (zs zf50 12 34 ++ (zs z 46 14 ++ [(zf50 60)]))) : List Value)) (fun (s_ : (Nat) × (Option Nat) × (Value)) => match s_ with | ⟨k, bo_out2, u_out2⟩ => fun (w_ : World) => (k ≤ (placesL (hfL la) 224 m).length) ∧ Only (Orq bo_half (Orq bo_out No)) w37 w_ ∧ Ow 3 1 bo_out2 u_out2 ((placesL la 224 m).map (32 + ·) ++ ((placesL (hfL la) 224 m).take k).map (256 + ·)).length (((placesL la 224 m).map (32 + ·) ++ ((placesL (hfL la) 224 m).take k).map (256 + ·)).map eN) w_ ∧ Fr bo_out2 bo_out w37.heap.size ∧ Ow 3 1 bo_half u_half (hfL la).length ((hfL la).map eI) w_) (fun (s_ : (Nat) × (Option Nat) × (Value)) => match s_ with | ⟨k, bo_out2, u_out2⟩ => (placesL (hfL la) 224 m).length - k) ⟨0, bo_out, u_out⟩ kr ?_ ?_
 ·
  refine ⟨?_, ?_, ?_, ?_, ?_⟩
  ·
   exact Nat.zero_le _
  ·
   exact Only.refl _ _
  ·
   (try dsimp only)
   all_goals (rw [List.take_zero, List.map_nil, List.append_nil]; exact a11)
  ·
   exact Fr.same
  ·
   exact a16
 rintro ⟨k, bo_out2, u_out2⟩ z w52 ⟨hk, o51, a11, qq_out, a16⟩
 (try dsimp only)
 replace h1 := h1.re o51 (orq_mono (orq_mono no_any)) (xx_orq (xx_re qq_out xx_id))
 replace f15 := f15.re o51 (orq_mono (orq_mono no_any)) (xx_orq (xx_re qq_out xx_id))
 replace f35 := f35.re o51 (orq_mono (orq_mono no_any)) (xx_orq (xx_re qq_out xx_id))
 have tq_oW := oW.size
 replace oW := oW.tail o51 (tl_q q_oW_half (fun _ e => by cases e) (tl_q q_oW_out (fun _ e => by cases e) tl_no))
 replace q_oW_out := qtr qq_out q_oW_out tq_oW
 have tq_o17 := o17.size
 replace o17 := o17.tail o51 (tl_q q_o17_half (fun k e => (.inl e)) (tl_q q_o17_out (fun k e => (.inr (.inl e))) tl_no))
 replace q_o17_out := qtr qq_out q_o17_out tq_o17
 have tq_o36 := o36.size
 replace o36 := o36.tail o51 (tl_q q_o36_half (fun k e => (.inl e)) (tl_q q_o36_out (fun k e => (.inr (.inl e))) tl_no))
 replace q_o36_out := qtr qq_out q_o36_out tq_o36
 replace nqq_out_half := fun x h1 h2 => nqq_step (fun x h1 h2 => nqq_out_half x h2 h1) qq_out h_lts_half x h2 h1
 have q_o51_out := qq_out
 have q_o51_half : Fr bo_half bo_half w37.heap.size := Fr.same
 refine wQ (wQ (pL ?_))
 refine wI (d_move rfl) ?_
 refine wI (d_move rfl) ?_
 refine wI (d_lenS rfl Try.underlying23 rfl f35) ?_
 refine wI (n_lss (a := k) (b := ((placesL (hfL la) 224 m).length)) rfl rfl rfl) ?_
 refine wD (tN ?_)
 refine cond_if rfl (fun c3 => ?_) (fun c3 => ?_)
 ·
  have hm_ := getD_lt (places_in (hfL la) m (show 0 < 224 by decide)) c3
  have hn_ := places_le la 224 m
  have hn2_ := places_le (hfL la) 224 m
  refine wK (tN (wQ (wB (pL ?_))))
  refine wI (d_move rfl) ?_
  refine wF (zs zf50 0 5 ++ [u_out2, (zf50 6), u_half, (eN i), u34, (eN j), (eN k)] ++ (zs zf50 12 34 ++ [(eN k), u34, (eN ((placesL (hfL la) 224 m).length)), (Value.bool (decide (k < ((placesL (hfL la) 224 m).length)))), (z 50), (z 51), u_out2] ++ (zs z 53 7 ++ [(zf50 60)]))) ?_
  refine wI (d_move rfl) ?_
  refine wI (d_move rfl) ?_
  refine wI (d_ix (i := k) (xs := (placesL (hfL la) 224 m)) Try.underlying23 s_ti3 rfl f35 (show _ = Value.int _ (k : Int) from rfl) (by have := places_le (hfL la) 224 m; have := hfL_length la; first | omega | (simp; done) | (simp; omega))) ?_
  refine wI (d_ldx (i := k) (xs := (placesL (hfL la) 224 m)) (enc := eN) (v := ((placesL (hfL la) 224 m).getD k 0)) ⟨_, Try.underlying3, rfl⟩ rfl f35 (g_at (by have := places_le (hfL la) 224 m; have := hfL_length la; first | omega | (simp; done) | (simp; omega)))) ?_
  refine wI (n_add (a := 256) (b := ((placesL (hfL la) 224 m).getD k 0)) rfl rfl oo) ?_
  refine wF (zs zf50 0 5 ++ [u_out2, (zf50 6), u_half, (eN i), u34, (eN j), (eN k)] ++ (zs zf50 12 34 ++ [(eN k), u34, (eN ((placesL (hfL la) 224 m).length)), (Value.bool (decide (k < ((placesL (hfL la) 224 m).length)))), (z 50), (z 51), u_out2, u34, (eN k), (ixp u34 k), (eN ((placesL (hfL la) 224 m).getD k 0)), (eN (256 + ((placesL (hfL la) 224 m).getD k 0))), (z 58), (z 59), (zf50 60)])) ?_
  refine wO (d_buildL (cs := [(eN (256 + ((placesL (hfL la) 224 m).getD k 0)))]) Try.underlying23 s_ti3 rfl (nb rfl) (parts_cons (vs := [(eN (256 + ((placesL (hfL la) 224 m).getD k 0)))]) (cells_of (v := (eN (256 + ((placesL (hfL la) 224 m).getD k 0)))) rfl rfl) parts_nil) rfl) ?_
  rintro _ w54 ⟨b53, rfl, g55, a56, o57⟩
  replace a56 : Arr 3 b53 (([256 + ((placesL (hfL la) 224 m).getD k 0)] : List Nat).map eN) w54 := a56
  have l_b53 : ([256 + ((placesL (hfL la) 224 m).getD k 0)] : List Nat).length = 1 := rfl
  have nq_out_b53 : ∀ x, bo_out2 = some x → ¬ x = b53 := fun x hx e => by have := a11.lts x hx; omega
  have nq_half_b53 : ∀ x, bo_half = some x → ¬ x = b53 := fun x hx e => by have := a16.lts x hx; omega
  have g_oW_b53 : W.heap.size ≤ b53 := Nat.le_trans oW.size g55
  have g_o17_b53 : w12.heap.size ≤ b53 := Nat.le_trans o17.size g55
  have g_o36_b53 : w32.heap.size ≤ b53 := Nat.le_trans o36.size g55
  have g_o51_b53 : w37.heap.size ≤ b53 := Nat.le_trans o51.size g55
  replace h1 := h1.new o57 g55
  replace f15 := f15.new o57 g55
  replace f35 := f35.new o57 g55
  replace a11 := a11.step0 o57
  replace a16 := a16.step0 o57
  replace oW := oW.tail0 o57
  replace o17 := o17.tail0 o57
  replace o36 := o36.tail0 o57
  replace o51 := o51.tail0 o57
  refine wO (d_append Try.underlying23 Try.underlying23 s_ti3 rfl rfl rfl a11 (SrcV.of_seq (arr_seq a56 l_b53 (Nat.le_refl _)) (fun _ => rfl)) (by simp only [List.length_append, List.length_map, List.length_take, List.length_singleton]; omega) (by simp only [List.length_append, List.length_map, List.length_take, List.length_singleton]; omega) rfl) ?_
  rintro u58 w59 ⟨bo60, a61, o62, q63⟩
  replace a61 : Ow 3 1 bo60 u58 (((placesL la 224 m).map (32 + ·) ++ ((placesL (hfL la) 224 m).take k).map (256 + ·)) ++ ([256 + ((placesL (hfL la) 224 m).getD k 0)] : List Nat)).length ((((placesL la 224 m).map (32 + ·) ++ ((placesL (hfL la) 224 m).take k).map (256 + ·)) ++ ([256 + ((placesL (hfL la) 224 m).getD k 0)] : List Nat)).map eN) w59 := by rw [List.length_append, List.map_append]; exact a61
  replace h1 := h1.gr o62 (fun k e => (.inr (.inr (.inl e)))) (xx_or1 (xx_orq (xx_re (Fr.of_or q63) xx_id)))
  replace f15 := f15.gr o62 (fun k e => (.inr (.inr (.inl e)))) (xx_or1 (xx_orq (xx_re (Fr.of_or q63) xx_id)))
  replace f35 := f35.gr o62 (fun k e => (.inr (.inr (.inl e)))) (xx_or1 (xx_orq (xx_re (Fr.of_or q63) xx_id)))
  have nq2 := nqs nq_out_b53 (Fr.of_or q63) a56.lt
  replace a56 := a56.step o62 (fun e => nq_out_b53 _ e rfl)
  replace nq_out_b53 := nq2
  clear nq2
  have lt2 := a16.lts
  replace a16 := a16.step o62 (fun x hx e => nqq_out_half x e hx)
  replace nqq_out_half := fun x h1 h2 => nqq_step (fun x h1 h2 => nqq_out_half x h2 h1) (Fr.of_or q63) lt2 x h2 h1
  clear lt2
  have tq := oW.size
  replace oW := oW.tailr o62 q_oW_out (fun _ e => by cases e)
  replace q_oW_out := qtr (Fr.of_or q63) q_oW_out tq
  clear tq
  have tq := o17.size
  replace o17 := o17.tailr o62 q_o17_out (fun k e => (.inr (.inl e)))
  replace q_o17_out := qtr (Fr.of_or q63) q_o17_out tq
  clear tq
  have tq := o36.size
  replace o36 := o36.tailr o62 q_o36_out (fun k e => (.inr (.inl e)))
  replace q_o36_out := qtr (Fr.of_or q63) q_o36_out tq
  clear tq
  have tq := o51.size
  replace o51 := o51.tailr o62 q_o51_out (fun k e => (.inr (.inl e)))
  replace q_o51_out := qtr (Fr.of_or q63) q_o51_out tq
  clear tq
  refine wI (d_assign rfl) ?_
  refine wD ?_
  refine inb_n (tN ?_)
  refine forget (fun zf64 => (zs zf50 0 5 ++ [u58, (zf50 6), u_half, (eN i), u34, (eN j), (eN k)] ++ (zs zf50 12 34 ++ (zs zf64 46 14 ++ [(zf50 60)])))) kr (fun zf64 => ?_)
  refine pL ?_
  refine wI (d_move rfl) ?_
  refine wI (n_add (a := k) (b := 1) rfl rfl oo) ?_
  refine wI (d_assign rfl) ?_
  refine wD (tN ?_)
  refine ⟨_, ⟨k + 1, bo60, u58⟩, rfl, kr, ⟨?_, ?_, ?_, ?_, ?_⟩, ?_⟩
  ·
   (try dsimp only)
   all_goals (omega)
  ·
   exact o51
  ·
   (try dsimp only)
   all_goals (rw [List.append_assoc, map_next (f := (256 + ·)) c3] at a61; exact a61)
  ·
   exact q_o51_out
  ·
   exact a16
  ·
   (try dsimp only)
   all_goals (omega)
 refine wpIn_exit ?_
 refine then_x (then_x (inb_e ?_))
 refine tN (wQ (pL ?_))
 refine wI (d_move rfl) ?_
 refine wF (zs zf50 0 5 ++ [u_out2, (zf50 6), u_half, (eN i), u34, (eN j), (eN k)] ++ (zs zf50 12 34 ++ [(eN k), u34, (eN ((placesL (hfL la) 224 m).length)), (Value.bool (decide (k < ((placesL (hfL la) 224 m).length))))] ++ (zs z 50 10 ++ [u_out2]))) ?_
 refine wI (d_assign rfl) ?_
 refine wD (tN ?_)
 refine wpIn_ret ?_
 refine leave0 (v := u_out2) (res1 Try.results23 rfl) ?_
 exact ROw.mk_ a11 (by rw [List.take_of_length_le (show (placesL (hfL la) 224 m).length ≤ k by omega)]; rfl) q_oW_out oW
end Go.Proofs.YtgalehapmdabeaaF
