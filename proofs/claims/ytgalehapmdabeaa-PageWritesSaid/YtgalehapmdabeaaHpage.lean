import Derived.Test.YtgalehapmdabeaaFz
import Derived.Test.YtgalehapmdabeaaTy
import Derived.Test.YtgalehapmdabeaaHbits
import Derived.Test.YtgalehapmdabeaaHref4
import Derived.Test.YtgalehapmdabeaaMn
set_option linter.unusedVariables false
set_option linter.unusedSimpArgs false
namespace Go.Proofs.YtgalehapmdabeaaF
open Go Go.Shelf Go.Proofs.YtgalehapmdabeaaS Ram
set_option maxRecDepth 20000 in
set_option maxHeartbeats 1000000 in
theorem pageParts_ok (la : List UInt8) (n : Nat) (u1 : Value) (W : World) (h1 : Ps No (Seq kB la u1) W) :
    CW Try.prog 39 #[u1, (eN n)] W (Rt (fun u w => ∃ b c, u = .func (.func 62) #[] #[ptr b 0, ptr c 0] ∧ W.heap.size ≤ b ∧ W.heap.size ≤ c ∧ b ≠ c ∧ Arr 22 b [u1] w ∧ Arr 3 c [eN n] w ∧ Only No W w)) := by
 have oW : Only No W W := Only.refl _ _
 refine enter (al := [u1, (eN n)]) (k := 4) (l := [u1, (eN n), undef, undef, undef, undef]) Try.func39 rfl Try.ntmps39 rfl rfl ?_
 refine wpIn_seq ?_
 refine plain ?_
 refine wO (d_box rfl (Seq.cells h1)) ?_
 rintro _ w11 ⟨b, rfl, g12, a13, o14⟩
 have g_oW_b : W.heap.size ≤ b := Nat.le_trans oW.size g12
 replace h1 := h1.new o14 g12
 replace oW := oW.tail0 o14
 refine wO (d_box rfl rfl) ?_
 rintro _ w15 ⟨c, rfl, g16, a17, o18⟩
 have n_b_c : b ≠ c := a13.ne g16
 have g_oW_c : W.heap.size ≤ c := Nat.le_trans oW.size g16
 replace h1 := h1.new o18 g16
 replace a13 := a13.step0 o18
 replace oW := oW.tail0 o18
 refine wI (d_assign rfl) ?_
 refine wF [u1, (eN n), (ptr b 0), (ptr c 0), .nilFunc, undef] ?_
 refine wpL.done ?_
 refine then_n ?_
 refine wpIn_seq ?_
 refine plain ?_
 refine wI (d_funcL (yl := [.tmp 2, .tmp 3]) (ys := [(ptr b 0), (ptr c 0)]) rfl) ?_
 refine wI (d_assign rfl) ?_
 refine wF [u1, (eN n), (ptr b 0), (ptr c 0), (Value.func (.func 62) #[] #[(ptr b 0), (ptr c 0)]), (Value.func (.func 62) #[] #[(ptr b 0), (ptr c 0)])] ?_
 refine wpL.done ?_
 refine then_n ?_
 refine wpIn_ret ?_
 refine leave0 (v := (Value.func (.func 62) #[] #[(ptr b 0), (ptr c 0)])) (res1 Try.results39 rfl) ?_
 exact ⟨b, c, rfl, g_oW_b, g_oW_c, n_b_c, a13, a17, oW⟩

set_option maxRecDepth 20000 in
set_option maxHeartbeats 1000000 in
theorem pageParts1_ok {O X : Nat → Prop} {w0 : World} (n : Nat) (lw : List UInt8) (uw : Value) (b c l : Nat) (J Jx : List Value → World → Prop) (W : World) (hn : 0 < n) (hb : Arr 22 b [uw] W) (hc : Arr 3 c [eN n] W) (n_b_c : b ≠ c) (kb : Kp O w0.heap.size b) (kc : Kp O w0.heap.size c) (hw : Ps (OrN X w0.heap.size) (Seq kB lw uw) W) (hX : ∀ k, O k → X k) (hXb : X b) (hg : lw.length ≤ 1048576) (SJ : ∀ pre W W', J pre W → Only (Or1 b No) W W' → J pre W') (hy : ∀ pre x, pre ++ [x] <+: partsV n lw uw → ∀ W1, J pre W1 → YieldAt Fence.wide 0 Try.prog l #[x] W1 fun e W' => ∃ u, e = .returned u ∧ YR J Jx (Kp O w0.heap.size) (pre ++ [x]) W1 u W') (hJ : J [] W) :
    CW Try.prog 62 #[(Value.func (.yield l) #[] #[]), (ptr b 0), (ptr c 0)] W (Rt (fun _ W' => J (partsV n lw uw) W' ∨ ∃ pre, pre <+: partsV n lw uw ∧ Jx pre W')) := by
 refine enter (al := [(Value.func (.yield l) #[] #[]), (ptr b 0), (ptr c 0)]) (k := 18) (l := ([(Value.func (.yield l) #[] #[]), (ptr b 0), (ptr c 0)] ++ (us 18))) Try.func62 rfl Try.ntmps62 rfl rfl ?_
 refine wpIn_block ?_
 refine loop2 (fun (i : (Nat)) => fun (z : Nat → Value) => (([(Value.func (.yield l) #[] #[]), (ptr b 0), (ptr c 0), undef] ++ (zs z 4 17)) : List Value)) (fun (i : (Nat)) => fun (w_ : World) => (i ≤ lw.length / n) ∧ (J ((partsV n lw uw).take i) w_) ∧ Arr 22 b [(pu n lw uw i)] w_ ∧ Arr 3 c [(eN n)] w_ ∧ Ps (OrN X w0.heap.size) (Seq kB lw uw) w_) (fun (i : (Nat)) => lw.length / n - i) 0 rfl ?_ ?_
 ·
  refine ⟨?_, ?_, ?_, ?_, ?_⟩
  ·
   exact Nat.zero_le _
  ·
   exact hJ
  ·
   exact hb
  ·
   exact hc
  ·
   exact hw
 rintro i z w12 ⟨hi, hJ, hb, hc, hw⟩
 (try dsimp only)
 have hp_ := pu_seq hn hw i hi
 refine wpIn_seq ?_
 refine wpIn_seq ?_
 by_cases c0_ : n ≤ ((lw.drop (i * n)).length)
 ·
  refine plain ?_
  refine wI (d_load (v := (pu n lw uw i)) ⟨_, Try.underlying22, rfl⟩ rfl hb rfl) ?_
  refine wI (d_lenS rfl Try.underlying22 rfl hp_) ?_
  refine wI (d_load (v := (eN n)) ⟨_, Try.underlying3, rfl⟩ rfl hc rfl) ?_
  refine wF ([(Value.func (.yield l) #[] #[]), (ptr b 0), (ptr c 0), undef, (pu n lw uw i), (eN ((lw.drop (i * n)).length)), (eN n)] ++ (zs z 7 14)) ?_
  refine wI (n_geq (a := ((lw.drop (i * n)).length)) (b := n) rfl rfl (decide_eq_true c0_)) ?_
  refine wI (d_move rfl) ?_
  refine wpL.onis rfl rfl rfl (nb rfl) rfl (d_load (v := (eN n)) ⟨_, Try.underlying3, rfl⟩ rfl hc rfl) ?_
  refine wF ([(Value.func (.yield l) #[] #[]), (ptr b 0), (ptr c 0), undef, (pu n lw uw i), (eN ((lw.drop (i * n)).length)), (eN n), (Value.bool true), (Value.bool true), (eN n)] ++ (zs z 10 11)) ?_
  refine wpL.onis rfl rfl rfl (nb rfl) rfl (n_gtr (a := n) (b := 0) rfl rfl (decide_eq_true hn)) ?_
  refine wI (d_pick (b := true) (v := (Value.bool true)) rfl rfl) ?_
  refine wF ([(Value.func (.yield l) #[] #[]), (ptr b 0), (ptr c 0), undef, (pu n lw uw i), (eN ((lw.drop (i * n)).length)), (eN n), (Value.bool true), (Value.bool true), (eN n), (Value.bool true), (Value.bool true)] ++ (zs z 12 9)) ?_
  refine wpL.done ?_
  refine then_n ?_
  refine cond_t rfl ?_
  refine wpIn_skip ?_
  refine then_n ?_
  refine forget (fun zf13 => ([(Value.func (.yield l) #[] #[]), (ptr b 0), (ptr c 0), undef] ++ (zs zf13 4 17))) (by kernel_rfl) (fun zf13 => ?_)
  refine wpIn_block ?_
  refine wpIn_seq ?_
  refine wpIn_seq ?_
  refine plain ?_
  refine wI (d_move rfl) ?_
  refine wI (d_load (v := (pu n lw uw i)) ⟨_, Try.underlying22, rfl⟩ rfl hb rfl) ?_
  refine wI (d_load (v := (eN n)) ⟨_, Try.underlying3, rfl⟩ rfl hc rfl) ?_
  refine wF ([(Value.func (.yield l) #[] #[]), (ptr b 0), (ptr c 0), undef] ++ (zs zf13 4 8 ++ [(Value.func (.yield l) #[] #[]), (pu n lw uw i), (eN n)] ++ (zs zf13 15 6))) ?_
  have f14 : Ps _ (Seq kB ((lw.drop (i * n)).take n) (subv 1 0 n (pu n lw uw i))) _ := subv_seq (q := kB) (l := 0) (h := n) (ys := ((lw.drop (i * n)).take n)) hp_ (by omega) c0_ (by first | (rw [List.take_length]; done) | (simp; done))
  refine wI (d_subv (q := kB) (xs := (lw.drop (i * n))) (l := 0) (h := n) Try.underlying22 s_ti5 rfl hp_ Bd.none (Bd.some (l := n) (k := .i64) rfl) (by omega) c0_) ?_
  refine wO (d_yield (xl := [.tmp 15]) (al := [(subv 1 0 n (pu n lw uw i))]) rfl rfl (hy _ _ (parts_pre ((parts_more hn).1 c0_)) _ hJ)) ?_
  rintro _ w15 ⟨t, rfl, hT, hF⟩
  refine wI (d_not rfl rfl) ?_
  refine wF ([(Value.func (.yield l) #[] #[]), (ptr b 0), (ptr c 0), undef] ++ (zs zf13 4 8 ++ [(Value.func (.yield l) #[] #[]), (pu n lw uw i), (eN n), (subv 1 0 n (pu n lw uw i)), (Value.bool t), (Value.bool (!t)), (zf13 18), (zf13 19), (zf13 20)])) ?_
  refine wpL.done ?_
  refine then_n ?_
  refine cond_b rfl (fun k0_ => ?_) (fun k0_ => ?_)
  ·
   refine wpIn_ret ?_
   refine then_r (inb_r (then_r (inb_r ?_)))
   refine leave0 (v := (Value.tuple #[])) (res0 Try.results62) ?_
   exact .inr ⟨_, parts_pre ((parts_more hn).1 c0_), hF (by simpa using k0_)⟩
  obtain ⟨hJ3, oY⟩ := hT (by simpa using k0_)
  rw [parts_snoc ((parts_more hn).1 c0_)] at hJ3
  replace hb := hb.step oY (fun h => h kb)
  replace hc := hc.step oY (fun h => h kc)
  replace hw := hw.yield hX oY
  replace hp_ := hp_.yield hX oY
  replace f14 := f14.yield hX oY
  refine wpIn_skip ?_
  refine then_n ?_
  refine plain ?_
  refine wI (d_load (v := (pu n lw uw i)) ⟨_, Try.underlying22, rfl⟩ rfl hb rfl) ?_
  refine wI (d_load (v := (eN n)) ⟨_, Try.underlying3, rfl⟩ rfl hc rfl) ?_
  have f16 : Ps _ (Seq kB ((lw.drop (i * n)).drop n) (subv 1 n ((lw.drop (i * n)).length) (pu n lw uw i))) _ := subv_seq (q := kB) (l := n) (h := ((lw.drop (i * n)).length)) (ys := ((lw.drop (i * n)).drop n)) hp_ c0_ (Nat.le_refl _) (by first | (rw [List.take_length]; done) | (simp; done))
  refine wI (d_subv (q := kB) (xs := (lw.drop (i * n))) (l := n) (h := ((lw.drop (i * n)).length)) Try.underlying22 s_ti5 rfl hp_ (Bd.some (l := n) (k := .i64) rfl) Bd.none c0_ (Nat.le_refl _)) ?_
  refine wF ([(Value.func (.yield l) #[] #[]), (ptr b 0), (ptr c 0), undef] ++ (zs zf13 4 8 ++ [(Value.func (.yield l) #[] #[]), (pu n lw uw i), (eN n), (subv 1 0 n (pu n lw uw i)), (Value.bool t), (Value.bool (!t)), (pu n lw uw i), (eN n), (subv 1 n ((lw.drop (i * n)).length) (pu n lw uw i))])) ?_
  refine wO (d_store s_ti22 rfl rfl (Seq.one f16) hb (nb rfl) rfl) ?_
  rintro _ w17 ⟨a18, o19⟩
  replace hw := hw.stepb o19 (.inl hXb)
  replace hp_ := hp_.stepb o19 (.inl hXb)
  replace f14 := f14.stepb o19 (.inl hXb)
  replace f16 := f16.stepb o19 (.inl hXb)
  replace hc := hc.step o19 (fun e => absurd e (Ne.symm n_b_c))
  replace hJ3 := SJ _ _ _ hJ3 (o19.mono fun k _ e => .inl e)
  refine wF ([(Value.func (.yield l) #[] #[]), (ptr b 0), (ptr c 0), undef] ++ (zs zf13 4 8 ++ [(Value.func (.yield l) #[] #[]), (pu n lw uw i), (eN n), (subv 1 0 n (pu n lw uw i)), (Value.bool t), (Value.bool (!t)), (pu n lw uw i), (eN n), (subv 1 n ((lw.drop (i * n)).length) (pu n lw uw i))])) ?_
  refine wpL.done ?_
  refine inb_n (then_n ?_)
  refine ⟨_, (i + 1), rfl, rfl, ⟨?_, ?_, ?_, ?_, ?_⟩, ?_⟩
  ·
   exact ((parts_more hn).1 c0_)
  ·
   exact hJ3
  ·
   exact a18
  ·
   exact hc
  ·
   exact hw
  ·
   (try dsimp only)
   all_goals (have h_ := ((parts_more hn).1 c0_); omega)
 refine plain ?_
 refine wI (d_load (v := (pu n lw uw i)) ⟨_, Try.underlying22, rfl⟩ rfl hb rfl) ?_
 refine wI (d_lenS rfl Try.underlying22 rfl hp_) ?_
 refine wI (d_load (v := (eN n)) ⟨_, Try.underlying3, rfl⟩ rfl hc rfl) ?_
 refine wF ([(Value.func (.yield l) #[] #[]), (ptr b 0), (ptr c 0), undef, (pu n lw uw i), (eN ((lw.drop (i * n)).length)), (eN n)] ++ (zs z 7 14)) ?_
 refine wI (n_geq (a := ((lw.drop (i * n)).length)) (b := n) rfl rfl (decide_eq_false c0_)) ?_
 refine wI (d_move rfl) ?_
 refine wF ([(Value.func (.yield l) #[] #[]), (ptr b 0), (ptr c 0), undef, (pu n lw uw i), (eN ((lw.drop (i * n)).length)), (eN n), (Value.bool false), (Value.bool false)] ++ (zs z 9 12)) ?_
 refine wpL.off rfl rfl rfl (nb rfl) rfl ?_
 refine wpL.off rfl rfl rfl (nb rfl) rfl ?_
 refine wI (d_pick (b := false) (v := (Value.bool false)) rfl rfl) ?_
 refine wF ([(Value.func (.yield l) #[] #[]), (ptr b 0), (ptr c 0), undef, (pu n lw uw i), (eN ((lw.drop (i * n)).length)), (eN n), (Value.bool false), (Value.bool false), undef, undef, (Value.bool false)] ++ (zs z 12 9)) ?_
 refine wpL.done ?_
 refine then_n ?_
 refine cond_f rfl ?_
 refine wpIn_exit ?_
 refine then_x (then_x (inb_e ?_))
 refine to_ret ?_
 refine leave0 (v := (Value.tuple #[])) (res0 Try.results62) ?_
 exact .inl (by rw [parts_all (fun h => c0_ ((parts_more hn).2 h))] at hJ; exact hJ)


theorem iter_pageParts {O X : Nat → Prop} {w0 : World} (n : Nat) (lw : List UInt8) (uw : Value) (b c : Nat) (hn : 0 < n) (hg : lw.length ≤ 1048576) (hb : Arr 22 b [uw] w0) (hc : Arr 3 c [eN n] w0) (n_b_c : b ≠ c) (nb : ¬ O b) (nc : ¬ O c) (hw : Ps X (Seq kB lw uw) w0) (hX : ∀ k, O k → X k) (hXb : X b) : Iter Try.prog 62 [ptr b 0, ptr c 0].toArray (fun x => [x].toArray) (Or1 b No) (Kp O w0.heap.size) (partsV n lw uw) w0 :=
  iter_of (encs := fun x => [x]) fun l J Jx W hO SJ SJx hy hJ => pageParts1_ok n lw uw b c l J Jx W hn (hb.step hO (fun h => h ⟨hb.lt, nb⟩)) (hc.step hO (fun h => h ⟨hc.lt, nc⟩)) n_b_c ⟨hb.lt, nb⟩ ⟨hc.lt, nc⟩ (hw.kp hX hO) hX hXb hg SJ hy hJ
set_option maxRecDepth 20000 in
set_option maxHeartbeats 1000000 in
theorem pageEncode_ok (la : List UInt8) (u1 : Value) (W : World) (h1 : Ps No (Seq kB la u1) W) (g1 : la.length ≤ 1048576) :
    CW Try.prog 16 #[u1] W (Rt (ROw 5 eB (pgE la) W)) := by
 have oW : Only No W W := Only.refl _ _
 refine enter (al := [u1]) (k := 17) (l := ([u1] ++ (us 17))) Try.func16 rfl Try.ntmps16 rfl rfl ?_
 refine wpIn_seq ?_
 refine plain ?_
 refine wI (d_assign rfl) ?_
 refine wF ([u1, undef, (Value.slice none 0 0)] ++ (us 15)) ?_
 refine wpL.done ?_
 refine then_n ?_
 refine wpIn_seq ?_
 refine wpIn_seq ?_
 refine plain ?_
 refine wI (d_move rfl) ?_
 refine wI (d_lenS rfl Try.underlying22 rfl h1) ?_
 refine wI (n_neq (a := la.length) (b := 48) rfl rfl rfl) ?_
 refine wF ([u1, undef, (Value.slice none 0 0), undef, undef, u1, (eN la.length), (Value.bool (!decide (la.length = 48)))] ++ (us 10)) ?_
 refine wpL.done ?_
 refine then_n ?_
 refine cond_un rfl (fun c0 => ?_) (fun c0 => ?_)
 ·
  refine wpIn_seq ?_
  refine plain ?_
  refine wI (d_assign rfl) ?_
  refine wF ([u1, undef, (Value.slice none 0 0), undef, undef, u1, (eN la.length), (Value.bool (!decide (la.length = 48)))] ++ (us 10)) ?_
  refine wpL.done ?_
  refine then_n ?_
  refine wpIn_ret ?_
  refine then_r ?_
  refine leave0 (v := (Value.slice none 0 0)) (res1 Try.results16 rfl) ?_
  exact ROw.nil ((pgE_no c0).symm) oW
 refine wpIn_skip ?_
 refine then_n ?_
 refine wpIn_seq ?_
 refine plain ?_
 refine wO (d_make1 (n := 4) Try.underlying22 s_ti5 rfl rfl (by omega) (by omega) rfl) ?_
 rintro _ w11 ⟨o, rfl, g12, a13, o14⟩
 replace a13 : Arr 5 o ((List.replicate 4 0).map eB) w11 := by rw [List.map_replicate]; exact a13
 have l_o : (List.replicate 4 0 : List UInt8).length = 4 := by simp
 have g_oW_o : W.heap.size ≤ o := Nat.le_trans oW.size g12
 replace h1 := h1.new o14 g12
 replace oW := oW.tail0 o14
 refine wO (d_alloc s_ti22 rfl) ?_
 rintro _ w15 ⟨oc, rfl, g16, a17, o18⟩
 have n_o_oc : o ≠ oc := a13.ne g16
 have g_oW_oc : W.heap.size ≤ oc := Nat.le_trans oW.size g16
 replace h1 := h1.new o18 g16
 replace a13 := a13.step0 o18
 replace oW := oW.tail0 o18
 refine wO (d_store s_ti22 rfl rfl rfl a17 (nb rfl) rfl) ?_
 rintro _ w19 ⟨a20, o21⟩
 replace h1 := h1.stepb o21 in1
 replace a13 := a13.step o21 (fun e => absurd e n_o_oc)
 replace oW := oW.tailb o21 g_oW_oc
 refine wF ([u1, undef, (Value.slice none 0 0), (ptr oc 0), undef, u1, (eN la.length), (Value.bool (!decide (la.length = 48))), (sli o 0 4 4)] ++ (us 9)) ?_
 refine wpL.done ?_
 have a22 := Ow.of_map2 a13 l_o
 have nq_r_oc := nq_b n_o_oc
 have q_oW_r : Fr (some o) none W.heap.size := Fr.new g_oW_o
 replace h1 := h1.less (Y := (Or1 oc (Orq (some o) No))) (xx_or1 (xx_br xx_id))
 refine then_n ?_
 refine wpIn_seq ?_
 refine wpIn_seq ?_
 refine plain ?_
 refine wI (d_move rfl) ?_
 refine wO (d_call (xl := [.tmp 9, .const (.int .i64 24)]) (al := [u1, (eN 24)]) Try.func39 (by kernel_rfl) rfl rfl rfl (pageParts_ok la 24 u1 _ (Ps.no h1))) ?_
 rintro _ w23 ⟨b25, b26, rfl, g27, g28, n31, a29, a30, o24⟩
 have n_oc_b25 : oc ≠ b25 := a20.ne g27
 have nq_r_b25 : ∀ x, (some o) = some x → ¬ x = b25 := fun x hx e => by have := a22.lts x hx; omega
 have g_oW_b25 : W.heap.size ≤ b25 := Nat.le_trans oW.size g27
 replace h1 := Ps.less (Y := Or1 b25 (Or1 oc (Orq (some o) No))) h1 (xx_new g27 xx_id)
 have n_b25_b26 : b25 ≠ b26 := n31
 have n_oc_b26 : oc ≠ b26 := a20.ne g28
 have nq_r_b26 : ∀ x, (some o) = some x → ¬ x = b26 := fun x hx e => by have := a22.lts x hx; omega
 have g_oW_b26 : W.heap.size ≤ b26 := Nat.le_trans oW.size g28
 replace h1 := h1.new o24 g28
 replace a20 := a20.step0 o24
 replace a22 := a22.step0 o24
 replace oW := oW.tail0 o24
 refine wF ([u1, undef, (Value.slice none 0 0), (ptr oc 0), undef, u1, (eN la.length), (Value.bool (!decide (la.length = 48))), (sli o 0 4 4), u1, (Value.func (.func 62) #[] #[(ptr b25 0), (ptr b26 0)])] ++ (us 7)) ?_
 refine wpL.done ?_
 refine then_n ?_
 refine wpIn_block ?_
 have h_lt_oc := a20.lt
 have h_lt_b26 := a30.lt
 have h_lt_b25 := a29.lt
 have h_lts_r := a22.lts
 have tq_oW := oW.size
 have nO_b25 : ¬ (Or1 oc (Orq (some o) No)) b25 := (not_or1 (Ne.symm n_oc_b25) (not_orq (fun x hx e => nq_r_b25 x hx e) not_no))
 have nO_b26 : ¬ (Or1 oc (Orq (some o) No)) b26 := (not_or1 (Ne.symm n_oc_b26) (not_orq (fun x hx e => nq_r_b26 x hx e) not_no))
 obtain ⟨D_, hD_⟩ : ∃ D_, w23.heap.size = D_ := ⟨_, rfl⟩
 obtain ⟨L_, hL_⟩ : ∃ L_, w23.heap.size + 1 = L_ := ⟨_, rfl⟩
 refine range_ (encs := (fun x => [x])) (Pv := (Or1 b25 No)) (O := (Or1 oc (Orq (some o) No))) (xs := (partsV 24 la u1)) (D := D_) (L := L_) (rs := []) hD_ hL_ rfl Try.func62 (by kernel_rfl) rfl (iter_pageParts 24 la u1 b25 b26 (by decide) (by first | omega | (simp; done) | (simp; omega)) a29 a30 n_b25_b26 nO_b25 nO_b26 h1 (or1_skip (or1_skip (or1_mono (orq_mono no_any)))) (in2 in1)) (fun k t => by simp only [Or1, No, or_false] at t; subst t; exact ⟨h_lt_b25, nO_b25⟩) (fun _ => rfl) (lt_or1 h_lt_oc (lt_orq h_lts_r lt_no)) (fun (pre : List Value) (w_ : World) => ∃ (bo_r : Option Nat) (u_r : Value), Only (Or1 b25 (Or1 oc (Orq (some o) No))) w23 w_ ∧ Arr 22 oc [u_r] w_ ∧ Arr 3 b26 [(eN 24)] w_ ∧ Dead b25 w_ ∧ Ow 5 1 bo_r u_r (pgTo la pre.length).length ((pgTo la pre.length).map eB) w_ ∧ Fr bo_r (some o) w23.heap.size ∧ (∀ x, bo_r = some x → ¬ x = b25) ∧ (∀ x, bo_r = some x → ¬ x = D_) ∧ (∀ x, bo_r = some x → ¬ x = L_)) (fun _ _ _ => False) ?_ ?_ ?_ ?_ ?_ ?_
 ·
  rintro pre w_ w2_ ⟨bo_r, u_r, o32, a20, a30, a29, a22, qq_r, nq_r_b25, nq_r_D_, nq_r_L_⟩ ho_
  exact ⟨bo_r, u_r, o32.tail ho_ (stab_tl hD_ hL_ (fun k t => by simp only [Or1, No, or_false] at t; subst t; exact in1)), a20.step ho_ (stab_b hD_ hL_ h_lt_oc (not_or1 n_oc_b25 not_no)), a30.step ho_ (stab_b hD_ hL_ h_lt_b26 (not_or1 (Ne.symm n_b25_b26) not_no)), Nat.lt_of_lt_of_le a29 ho_.size, a22.step ho_ (stab_q nq_r_D_ nq_r_L_ (fun b hb => not_or1 (nq_r_b25 b hb) not_no)), qq_r, nq_r_b25, nq_r_D_, nq_r_L_⟩
 ·
  intro _ _ _ _ h _; exact h.elim
 ·
  refine ⟨(some o), (sli o 0 4 4), ?_, ?_, ?_, ?_, ?_, ?_, ?_, ?_, ?_⟩
  ·
   exact Only.refl _ _
  ·
   exact a20
  ·
   exact a30
  ·
   exact a29.lt
  ·
   (try dsimp only)
   all_goals (rw [← pgTo_zero la] at a22; exact a22)
  ·
   exact Fr.same
  ·
   exact nq_r_b25
  ·
   (try dsimp only)
   all_goals (exact fun x hx e => by have := h_lts_r x hx; omega)
  ·
   (try dsimp only)
   all_goals (exact fun x hx e => by have := h_lts_r x hx; omega)
 ·
  intro pre x w1_ hpx_ hI_ hL1_
  obtain ⟨bo_r, u_r, o32, a20, a30, a29, a22, qq_r, nq_r_b25, nq_r_D_, nq_r_L_⟩ := hI_
  replace h1 := Ps.re (X' := (Or1 L_ (Or1 D_ (Or1 b26 (Or1 b25 (Or1 oc (Orq bo_r No))))))) h1 o32 (or1_skip (or1_mono (or1_mono (orq_mono no_any)))) (xx_new (by omega) (xx_new (Nat.le_of_eq hD_) (xx_or1 (xx_or1 (xx_or1 (xx_re qq_r xx_id))))))
  replace oW := oW.tail o32 (tl_new g_oW_b25 (tl_new g_oW_oc (tl_q q_oW_r (fun _ e => by cases e) tl_no)))
  replace q_oW_r := qtr qq_r q_oW_r tq_oW
  replace nq_r_oc := nqs nq_r_oc qq_r h_lt_oc
  replace nq_r_b26 := nqs nq_r_b26 qq_r h_lt_b26
  have q_o32_r : Fr bo_r (some o) w23.heap.size := qq_r
  have n_oc_D_ : oc ≠ D_ := by omega
  have n_b26_D_ : b26 ≠ D_ := by omega
  have n_b25_D_ : b25 ≠ D_ := by omega
  have g_oW_D_ : W.heap.size ≤ D_ := by omega
  have g_o32_D_ : w23.heap.size ≤ D_ := by omega
  have n_oc_L_ : oc ≠ L_ := by omega
  have n_b26_L_ : b26 ≠ L_ := by omega
  have n_b25_L_ : b25 ≠ L_ := by omega
  have g_oW_L_ : W.heap.size ≤ L_ := by omega
  have g_o32_L_ : w23.heap.size ≤ L_ := by omega
  have n_D__L_ : D_ ≠ L_ := by omega
  have aL_ : Dead L_ w1_ := hL1_
  have aD_ : Dead D_ w1_ := by unfold Dead; omega
  refine wp_eq (l' := ([u1, undef, (Value.slice none 0 0), (ptr oc 0), undef, u1, (eN la.length), (Value.bool (!decide (la.length = 48))), (sli o 0 4 4), u1, (Value.func (.func 62) #[] #[(ptr b25 0), (ptr b26 0)]), x] ++ (us 6))) (by kernel_rfl) ?_
  refine plain ?_
  refine wI (d_assign rfl) ?_
  refine wF ([u1, undef, (Value.slice none 0 0), (ptr oc 0), x, u1, (eN la.length), (Value.bool (!decide (la.length = 48))), (sli o 0 4 4), u1, (Value.func (.func 62) #[] #[(ptr b25 0), (ptr b26 0)]), x] ++ (us 6)) ?_
  refine wpL.done ?_
  refine then_n ?_
  refine ⟨Only.refl _ _, fun w2_ oL_ _ => ?_⟩
  replace h1 := h1.stepb oL_ in1
  replace a20 := a20.step oL_ (fun e => absurd e n_oc_L_)
  replace a30 := a30.step oL_ (fun e => absurd e n_b26_L_)
  replace a29 := a29.step oL_ (fun e => absurd e n_b25_L_)
  replace aD_ := aD_.step oL_ (fun e => absurd e n_D__L_)
  replace a22 := a22.step oL_ (fun x hx e => nq_r_L_ x hx e)
  replace oW := oW.tailb oL_ g_oW_L_
  replace o32 := o32.tailb oL_ g_o32_L_
  replace aL_ : Dead L_ w2_ := Nat.lt_of_lt_of_le aL_ oL_.size
  have oR_ : Only (fun k => (Or1 oc (Orq (some o) No)) k ∨ L_ < k) w2_ w2_ := Only.refl _ _
  have nqD0_r := nq_r_D_
  have nqL0_r := nq_r_L_
  have q_oR__r : Fr bo_r bo_r w2_.heap.size := Fr.same
  obtain ⟨hp_, hx_⟩ := parts_in hpx_
  have fx_ := pv_seq (n := 24) (by decide) h1 pre.length hp_
  rw [← hx_] at fx_
  refine wpIn_block ?_
  refine drawnT (O := (Or1 oc (Orq bo_r No))) (n := 5) 3 [0, 0, 2, 7, 15] [(0, 12), (1, 13), (2, 14), (3, 15)] [(0, 12), (1, 13), (2, 14)] [0, 1, 2] [] (fun i_ => ([RF.is (Or1 oc (Orq bo_r No)) u_r, RF.is (Or1 oc (Orq bo_r No)) x, RF.ps (Or1 oc (Orq bo_r No)) (Or1 L_ (Or1 D_ (Or1 b26 (Or1 b25 (Or1 oc (Orq bo_r (Old W.heap.size))))))) (Seq kB (encR (pgH la pre.length))) (or1_skip (or1_skip (or1_skip (or1_skip (or1_mono (orq_mono no_any))))))] : List (RF (Or1 oc (Orq bo_r No)))).getD i_ (RF.any (Or1 oc (Orq bo_r No)))) (fun _ w_ => Arr 22 oc [u_r] w_ ∧ Arr 3 b26 [(eN 24)] w_ ∧ Dead b25 w_ ∧ Dead D_ w_ ∧ Dead L_ w_ ∧ Ow 5 1 bo_r u_r (pgTo la pre.length).length ((pgTo la pre.length).map eB) w_) (fun v33 => [u1, undef, (Value.slice none 0 0), (ptr oc 0), x, u1, (eN la.length), (Value.bool (!decide (la.length = 48))), (sli o 0 4 4), u1, (Value.func (.func 62) #[] #[(ptr b25 0), (ptr b26 0)]), x, (v33 0), (v33 1), (v33 2), (v33 3), undef, undef]) (fun v33 => [u1, undef, (Value.slice none 0 0), (ptr oc 0), x, u1, (eN la.length), (Value.bool (!decide (la.length = 48))), (sli o 0 4 4), u1, (Value.func (.func 62) #[] #[(ptr b25 0), (ptr b26 0)]), x, (v33 0), (v33 1), (v33 2), undef, undef, undef]) s_mx (by kernel_rfl) rfl (by decide) (by rfl) (by kernel_rfl) (by kernel_rfl) (by kernel_rfl) (by rfl) (fun v_ => by kernel_rfl) (fun v_ => by kernel_rfl) (fun _ => fun w_ w2_ h ho => by obtain ⟨r_a20, r_a30, r_a29, r_aD_, r_aL_, r_a22⟩ := h; exact ⟨r_a20.step0 ho, r_a30.step0 ho, r_a29.step0 ho, r_aD_.step0 ho, r_aL_.step0 ho, r_a22.step0 ho⟩) ⟨a20, a30, a29, aD_, aL_, a22⟩ ?_ ?_ ?_
  ·
   refine ls_cons ?_ ?_
   ·
    intro v33 lo hi w_ k_ hO hd _ _ hk_ _ hR hold
    obtain ⟨r_a20, r_a30, r_a29, r_aD_, r_aL_, r_a22⟩ := hR
    clear hd hold
    refine ⟨_, rfl, gd rfl ?_⟩
    exact Does.is (d_load (v := u_r) ⟨_, Try.underlying22, rfl⟩ rfl r_a20 rfl)
   refine ls_cons ?_ ?_
   ·
    intro v33 lo hi w_ k_ hO hd _ _ hk_ _ hR hold
    obtain ⟨r_a20, r_a30, r_a29, r_aD_, r_aL_, r_a22⟩ := hR
    clear hd hold
    refine ⟨_, rfl, gd rfl ?_⟩
    exact Does.is (d_move rfl)
   refine ls_cons ?_ ?_
   ·
    intro v33 lo hi w_ k_ hO hd _ _ hk_ _ hR hold
    obtain ⟨r_a20, r_a30, r_a29, r_aD_, r_aL_, r_a22⟩ := hR
    have e1 : v33 1 = x := hd 1 (by kernel_rfl)
    clear hd hold
    refine ⟨_, rfl, gd rfl ?_⟩
    refine Does.mono (R := ROw 5 eB (encR (pgH la pre.length)) w_) ?_ (fun u w' h => ⟨(h.ps).1.less (or1_old r_aL_.lt (or1_old r_aD_.lt (or1_old r_a30.lt (or1_old r_a29.lt (or1_old r_a20.lt (orq_old r_a22.lts (old_old (Nat.le_trans oW.size hO.size)))))))), (h.ps).2⟩)
    exact d_call (xl := [.tmp 13]) (al := [x]) Try.func40 (by kernel_rfl) rfl (show ([(v33 1)] : List Value) = [x] from by rw [e1]) rfl (bchEncode_ok (pgH la pre.length) x _ (Ps.no (fx_.step hO (or1_skip (or1_skip (or1_skip (or1_skip (or1_mono (orq_mono no_any)))))))) (by have := pgH_len la pre.length; first | omega | (simp; done) | (simp; omega)))
   exact ls_nil
  ·
   exact ms_nil
  intro v33 lo_ hi_ w34 o35 hd iv_ hR
  have e0 : v33 0 = u_r := hd 0 (by decide)
  have e1 : v33 1 = x := hd 1 (by decide)
  have f_v33_2 : Ps (Or1 L_ (Or1 D_ (Or1 b26 (Or1 b25 (Or1 oc (Orq bo_r (Old W.heap.size))))))) (Seq kB (encR (pgH la pre.length)) (v33 2)) w34 := hd 2 (by decide)
  clear hd iv_ lo_ hi_
  refine wpL.flat [u1, undef, (Value.slice none 0 0), (ptr oc 0), x, u1, (eN la.length), (Value.bool (!decide (la.length = 48))), (sli o 0 4 4), u1, (Value.func (.func 62) #[] #[(ptr b25 0), (ptr b26 0)]), x, u_r, x, (v33 2), undef, undef, undef] (by rw [e0, e1] <;> rfl) ?_
  clear e0 e1
  replace h1 := h1.step o35 (or1_skip (or1_skip (or1_skip (or1_skip (or1_mono (orq_mono no_any))))))
  replace fx_ := fx_.step o35 (or1_skip (or1_skip (or1_skip (or1_skip (or1_mono (orq_mono no_any))))))
  obtain ⟨xr_a20, xr_a30, xr_a29, xr_aD_, xr_aL_, xr_a22⟩ := hR
  replace a20 : Arr 22 oc [u_r] w34 := xr_a20
  replace a30 : Arr 3 b26 [(eN 24)] w34 := xr_a30
  replace a29 : Dead b25 w34 := xr_a29
  replace aD_ : Dead D_ w34 := xr_aD_
  replace aL_ : Dead L_ w34 := xr_aL_
  replace a22 : Ow 5 1 bo_r u_r (pgTo la pre.length).length ((pgTo la pre.length).map eB) w34 := xr_a22
  clear xr_a20 xr_a30 xr_a29 xr_aD_ xr_aL_ xr_a22
  replace oW := oW.tail o35 (tl_new g_oW_oc (tl_q q_oW_r (fun _ e => by cases e) tl_no))
  replace o32 := o32.tail o35 (tl_in (in2 in1) (tl_q q_o32_r (fun k e => (.inr (.inr (.inl e)))) tl_no))
  replace oR_ := oR_.tail o35 (tl_in (Or.inl in1) (tl_q q_oR__r (q_T qq_r (fun k e => (.inr (.inl e))) nqD0_r nqL0_r hD_ hL_) tl_no))
  refine wO (d_append Try.underlying22 Try.underlying22 s_ti5 rfl rfl rfl a22 (SrcV.of_seq f_v33_2 (fun _ => rfl)) (by have := pgTo_len la pre.length; have := encR_len (pgH la pre.length); have : la.length / 24 = 2 := (by omega); omega) (by have := pgTo_len la pre.length; have := encR_len (pgH la pre.length); have : la.length / 24 = 2 := (by omega); omega) rfl) ?_
  rintro u36 w37 ⟨bo38, a39, o40, q41⟩
  replace a39 : Ow 5 1 bo38 u36 ((pgTo la pre.length) ++ (encR (pgH la pre.length))).length (((pgTo la pre.length) ++ (encR (pgH la pre.length))).map eB) w37 := by rw [List.length_append, List.map_append]; exact a39
  replace h1 := h1.gr o40 (fun k e => (.inr (.inr (.inr (.inr (.inr (.inl e))))))) (xx_or1 (xx_or1 (xx_or1 (xx_or1 (xx_or1 (xx_re (Fr.of_or q41) xx_id))))))
  replace fx_ := fx_.gr o40 (fun k e => (.inr (.inr (.inr (.inr (.inr (.inl e))))))) (xx_or1 (xx_or1 (xx_or1 (xx_or1 (xx_or1 (xx_re (Fr.of_or q41) xx_id))))))
  replace f_v33_2 := f_v33_2.gr o40 (fun k e => (.inr (.inr (.inr (.inr (.inr (.inl e))))))) (xx_or1 (xx_or1 (xx_or1 (xx_or1 (xx_or1 (xx_re (Fr.of_or q41) xx_id))))))
  have nq2 := nqs nq_r_oc (Fr.of_or q41) a20.lt
  replace a20 := a20.step o40 (fun e => nq_r_oc _ e rfl)
  replace nq_r_oc := nq2
  clear nq2
  have nq2 := nqs nq_r_b26 (Fr.of_or q41) a30.lt
  replace a30 := a30.step o40 (fun e => nq_r_b26 _ e rfl)
  replace nq_r_b26 := nq2
  clear nq2
  have nq2 := nqs nq_r_b25 (Fr.of_or q41) a29.lt
  replace a29 := a29.step o40 (fun e => nq_r_b25 _ e rfl)
  replace nq_r_b25 := nq2
  clear nq2
  have nq2 := nqs nq_r_D_ (Fr.of_or q41) aD_.lt
  replace aD_ := aD_.step o40 (fun e => nq_r_D_ _ e rfl)
  replace nq_r_D_ := nq2
  clear nq2
  have nq2 := nqs nq_r_L_ (Fr.of_or q41) aL_.lt
  replace aL_ := aL_.step o40 (fun e => nq_r_L_ _ e rfl)
  replace nq_r_L_ := nq2
  clear nq2
  have tq := oW.size
  replace oW := oW.tailr o40 q_oW_r (fun _ e => by cases e)
  replace q_oW_r := qtr (Fr.of_or q41) q_oW_r tq
  clear tq
  have tq := o32.size
  replace o32 := o32.tailr o40 q_o32_r (fun k e => (.inr (.inr (.inl e))))
  replace q_o32_r := qtr (Fr.of_or q41) q_o32_r tq
  clear tq
  have tq := oR_.size
  replace oR_ := oR_.tailr o40 q_oR__r (q_T qq_r (fun k e => (.inr (.inl e))) nqD0_r nqL0_r hD_ hL_)
  replace q_oR__r := qtr (Fr.of_or q41) q_oR__r tq
  clear tq
  refine wO (d_store s_ti22 rfl rfl (Ow.one a39) a20 (nb rfl) rfl) ?_
  rintro _ w42 ⟨a43, o44⟩
  replace h1 := h1.stepb o44 (in2 (in2 (in2 (in2 in1))))
  replace fx_ := fx_.stepb o44 (in2 (in2 (in2 (in2 in1))))
  replace f_v33_2 := f_v33_2.stepb o44 (in2 (in2 (in2 (in2 in1))))
  replace a30 := a30.step o44 (fun e => absurd e (Ne.symm n_oc_b26))
  replace a29 := a29.step o44 (fun e => absurd e (Ne.symm n_oc_b25))
  replace aD_ := aD_.step o44 (fun e => absurd e (Ne.symm n_oc_D_))
  replace aL_ := aL_.step o44 (fun e => absurd e (Ne.symm n_oc_L_))
  replace a39 := a39.step o44 (fun x hx e => nq_r_oc x hx e)
  replace oW := oW.tailb o44 g_oW_oc
  replace o32 := o32.tail o44 (fun k _ e => by have : k = oc := e; rw [this]; exact (in2 in1))
  replace oR_ := oR_.tail o44 (fun k _ e => by have : k = oc := e; rw [this]; exact (Or.inl in1))
  refine wF [u1, undef, (Value.slice none 0 0), (ptr oc 0), x, u1, (eN la.length), (Value.bool (!decide (la.length = 48))), (sli o 0 4 4), u1, (Value.func (.func 62) #[] #[(ptr b25 0), (ptr b26 0)]), x, u_r, x, (v33 2), u36, undef, undef] ?_
  refine wpL.done ?_
  refine inb_n ?_
  refine ⟨oR_, bo38, u36, ?_, ?_, ?_, ?_, ?_, ?_, ?_, ?_, ?_⟩
  ·
   exact o32
  ·
   exact a43
  ·
   exact a30
  ·
   exact a29
  ·
   (try dsimp only)
   all_goals (rw [pgTo_snoc] at a39; rw [List.length_append]; exact a39)
  ·
   exact q_o32_r
  ·
   exact nq_r_b25
  ·
   exact nq_r_D_
  ·
   exact nq_r_L_
 ·
  intro w1_ hI_ aD_
  obtain ⟨bo_r, u_r, o32, a20, a30, a29, a22, qq_r, nq_r_b25, nq_r_D_, nq_r_L_⟩ := hI_
  replace h1 := Ps.re (X' := (Or1 D_ (Or1 b26 (Or1 b25 (Or1 oc (Orq bo_r No)))))) h1 o32 (or1_skip (or1_mono (or1_mono (orq_mono no_any)))) (xx_new (Nat.le_of_eq hD_) (xx_or1 (xx_or1 (xx_or1 (xx_re qq_r xx_id)))))
  replace oW := oW.tail o32 (tl_new g_oW_b25 (tl_new g_oW_oc (tl_q q_oW_r (fun _ e => by cases e) tl_no)))
  replace q_oW_r := qtr qq_r q_oW_r tq_oW
  replace nq_r_oc := nqs nq_r_oc qq_r h_lt_oc
  replace nq_r_b26 := nqs nq_r_b26 qq_r h_lt_b26
  have q_o32_r : Fr bo_r (some o) w23.heap.size := qq_r
  have n_oc_D_ : oc ≠ D_ := by omega
  have n_b26_D_ : b26 ≠ D_ := by omega
  have n_b25_D_ : b25 ≠ D_ := by omega
  have g_oW_D_ : W.heap.size ≤ D_ := by omega
  have g_o32_D_ : w23.heap.size ≤ D_ := by omega
  have hl_ := parts_len 24 la u1
  refine inb_n (then_n ?_)
  refine wpIn_seq ?_
  refine plain ?_
  refine wI (d_load (v := u_r) ⟨_, Try.underlying22, rfl⟩ rfl a20 rfl) ?_
  refine wO (d_call (xl := [.tmp 16]) (al := [u_r]) Try.func41 (by kernel_rfl) rfl rfl rfl (cloneB_ok (pgTo la (partsV 24 la u1).length) u_r _ (Ps.no (a22.seq (X := No) (fun _ _ h => h))) (by have := pgTo_len la ((partsV 24 la u1).length); first | omega | (simp; done) | (simp; omega)))) ?_
  rintro u47 w45 f48
  obtain ⟨bo49, f48, g50, o46⟩ := f48
  have nq_r2_oc := nq_new g50 a20.lt
  have nq_r2_b26 := nq_new g50 a30.lt
  have nq_r2_b25 := nq_new g50 a29.lt
  have nq_r2_D_ := nq_new g50 aD_.lt
  have nqq_r_r2 := nqq_new g50 a22.lts
  have q_oW_r2 := qnew g50 oW.size
  have q_o32_r2 := qnew g50 o32.size
  replace h1 := h1.newq o46 g50
  replace a20 := a20.step0 o46
  replace a30 := a30.step0 o46
  replace a29 := a29.step0 o46
  replace aD_ := aD_.step0 o46
  replace a22 := a22.step0 o46
  replace oW := oW.tail0 o46
  replace o32 := o32.tail0 o46
  refine wI (d_assign rfl) ?_
  refine wF ([u1, undef, u47, (ptr oc 0), undef, u1, (eN la.length), (Value.bool (!decide (la.length = 48))), (sli o 0 4 4), u1, (Value.func (.func 62) #[] #[(ptr b25 0), (ptr b26 0)])] ++ (us 5 ++ [u_r, u47])) ?_
  refine wpL.done ?_
  refine then_n ?_
  refine wpIn_ret ?_
  refine leave (marks_ok aD_) (fun w51 o52 => ⟨res1 Try.results16 rfl, ?_⟩)
  replace o52 := only_mem o52
  replace h1 := h1.stepb o52 (inq in1)
  replace a20 := a20.step o52 (fun e => absurd e n_oc_D_)
  replace a30 := a30.step o52 (fun e => absurd e n_b26_D_)
  replace a29 := a29.step o52 (fun e => absurd e n_b25_D_)
  replace a22 := a22.step o52 (fun x hx e => nq_r_D_ x hx e)
  replace f48 := f48.step o52 (fun x hx e => nq_r2_D_ x hx e)
  replace oW := oW.tailb o52 g_oW_D_
  replace o32 := o32.tailb o52 g_o32_D_
  exact ROw.mk_ f48 (pgTo_done c0 u1) q_oW_r2 oW
 ·
  intro _ _ _ _ h _; exact h.elim

set_option maxRecDepth 20000 in
set_option maxHeartbeats 1000000 in
theorem pageDecode_ok (la : List UInt8) (u1 : Value) (W : World) (h1 : Ps No (Seq kB la u1) W) (g1 : la.length ≤ 1048576) :
    CW Try.prog 21 #[u1] W (Rt (RPg (pgD la).1 (pgD la).2 W)) := by
 have oW : Only No W W := Only.refl _ _
 refine enter (al := [u1]) (k := 35) (l := ([u1] ++ (us 35))) Try.func21 rfl Try.ntmps21 rfl rfl ?_
 refine wpIn_seq ?_
 refine plain ?_
 refine wO (d_alloc s_ti32 rfl) ?_
 rintro _ w11 ⟨st, rfl, g12, a13, o14⟩
 have g_oW_st : W.heap.size ≤ st := Nat.le_trans oW.size g12
 replace h1 := h1.new o14 g12
 replace oW := oW.tail0 o14
 refine wF ([u1, undef, (ptr st 0)] ++ (us 33)) ?_
 refine wpL.done ?_
 refine then_n ?_
 refine wpIn_seq ?_
 refine wpIn_seq ?_
 refine plain ?_
 refine wI (d_move rfl) ?_
 refine wI (d_lenS rfl Try.underlying22 rfl h1) ?_
 refine wI (n_neq (a := la.length) (b := 60) rfl rfl rfl) ?_
 refine wF ([u1, undef, (ptr st 0)] ++ (us 5 ++ [u1, (eN la.length), (Value.bool (!decide (la.length = 60)))] ++ (us 25))) ?_
 refine wpL.done ?_
 refine then_n ?_
 refine cond_un rfl (fun c0 => ?_) (fun c0 => ?_)
 ·
  refine wpIn_seq ?_
  refine plain ?_
  refine wI (d_buildS (pl := [(0, 1), (1, 1)]) (zs := [(eN 0), (Value.slice none 0 0)]) (cs := [(eN 1), (Value.slice none 0 0)]) Try.underlying32 s_ti32 ⟨_, _, _, _, rfl, s_ti3, ⟨_, _, _, _, rfl, s_ti22, rfl⟩⟩ rfl (parts_cons (vs := [(eN 1)]) (cells_of (v := (eN 1)) rfl rfl) parts_nil) rfl) ?_
  refine wO (d_storeAg (cs' := [(eN 1), (Value.slice none 0 0)]) s_ti32 rfl rfl rfl (oc_cons rfl (oc_cons rfl oc_nil)) a13 (by decide) rfl) ?_
  rintro _ w15 ⟨a16, o17⟩
  replace h1 := h1.stepb o17 in1
  replace oW := oW.tailb o17 g_oW_st
  refine wF ([u1, undef, (ptr st 0)] ++ (us 5 ++ [u1, (eN la.length), (Value.bool (!decide (la.length = 60))), (Value.agg #[(eN 1), (Value.slice none 0 0)])] ++ (us 24))) ?_
  refine wpL.done ?_
  refine then_n ?_
  refine wpIn_ret ?_
  refine then_r ?_
  refine leave0 (v := (Value.agg #[(eN 1), (Value.slice none 0 0)])) (resC Try.results21 ⟨_, Try.underlying32, rfl⟩ s_ti32 rfl a16 rfl) ?_
  exact RPg.of (pgD_size c0) seq_nil oW
 refine wpIn_skip ?_
 refine then_n ?_
 refine wpIn_seq ?_
 refine wpIn_seq ?_
 refine plain ?_
 refine wI (d_move rfl) ?_
 refine wO (d_sliceS (xs := la) (ys := (la.take 4)) (l := 0) (h := 4) Try.underlying22 s_ti5 rfl h1 Bd.none (Bd.some (l := 4) (k := .i64) rfl) (by omega) (by omega) (by simp)) ?_
 rintro u18 _ ⟨f19, rfl⟩
 refine wO (d_call (xl := [.tmp 13]) (al := [u18]) Try.func44 (by kernel_rfl) rfl rfl rfl (bitsOnesN_ok (la.take 4) u18 _ (Ps.no f19) (by first | omega | (simp; done) | (simp; omega)))) ?_
 rintro _ w20 ⟨rfl, o21⟩
 replace h1 := h1.step0 o21
 replace f19 := f19.step0 o21
 replace a13 := a13.step0 o21
 replace oW := oW.tail0 o21
 refine wF ([u1, undef, (ptr st 0)] ++ (us 5 ++ [u1, (eN la.length), (Value.bool (!decide (la.length = 60))), undef, u1, u18, (eN (onesN (la.take 4)))] ++ (us 21))) ?_
 refine wI (n_gtr (a := (onesN (la.take 4))) (b := 16) rfl rfl rfl) ?_
 refine wF ([u1, undef, (ptr st 0)] ++ (us 5 ++ [u1, (eN la.length), (Value.bool (!decide (la.length = 60))), undef, u1, u18, (eN (onesN (la.take 4))), (Value.bool (decide (16 < (onesN (la.take 4)))))] ++ (us 20))) ?_
 refine wpL.done ?_
 refine then_n ?_
 refine cond_if rfl (fun c1 => ?_) (fun c1 => ?_)
 ·
  refine wpIn_seq ?_
  refine plain ?_
  refine wI (d_buildS (pl := [(0, 1), (1, 1)]) (zs := [(eN 0), (Value.slice none 0 0)]) (cs := [(eN 0), (Value.slice none 0 0)]) Try.underlying32 s_ti32 ⟨_, _, _, _, rfl, s_ti3, ⟨_, _, _, _, rfl, s_ti22, rfl⟩⟩ rfl (parts_cons (vs := [(eN 0)]) (cells_of (v := (eN 0)) rfl rfl) parts_nil) rfl) ?_
  refine wO (d_storeAg (cs' := [(eN 0), (Value.slice none 0 0)]) s_ti32 rfl rfl rfl (oc_cons rfl (oc_cons rfl oc_nil)) a13 (by decide) rfl) ?_
  rintro _ w22 ⟨a23, o24⟩
  replace h1 := h1.stepb o24 in1
  replace f19 := f19.stepb o24 in1
  replace oW := oW.tailb o24 g_oW_st
  refine wF ([u1, undef, (ptr st 0)] ++ (us 5 ++ [u1, (eN la.length), (Value.bool (!decide (la.length = 60))), undef, u1, u18, (eN (onesN (la.take 4))), (Value.bool (decide (16 < (onesN (la.take 4))))), (Value.agg #[(eN 0), (Value.slice none 0 0)])] ++ (us 19))) ?_
  refine wpL.done ?_
  refine then_n ?_
  refine forget (fun zf25 => ([(zf25 0), (zf25 1), (ptr st 0)] ++ (zs zf25 3 33))) (by kernel_rfl) (fun zf25 => ?_)
  refine wpIn_ret ?_
  refine then_r ?_
  refine leave0 (v := (Value.agg #[(eN 0), (Value.slice none 0 0)])) (resC Try.results21 ⟨_, Try.underlying32, rfl⟩ s_ti32 rfl a23 rfl) ?_
  exact RPg.of (pgD_blank c0 c1) seq_nil oW
 refine wpIn_skip ?_
 refine then_n ?_
 refine wpIn_seq ?_
 refine plain ?_
 refine wO (d_alloc s_ti22 rfl) ?_
 rintro _ w26 ⟨oc, rfl, g27, a28, o29⟩
 have n_st_oc : st ≠ oc := a13.ne g27
 have g_oW_oc : W.heap.size ≤ oc := Nat.le_trans oW.size g27
 replace h1 := h1.new o29 g27
 replace f19 := f19.new o29 g27
 replace a13 := a13.step0 o29
 replace oW := oW.tail0 o29
 refine wF ([u1, undef, (ptr st 0), (ptr oc 0), undef, undef, undef, undef, u1, (eN la.length), (Value.bool (!decide (la.length = 60))), undef, u1, u18, (eN (onesN (la.take 4))), (Value.bool (decide (16 < (onesN (la.take 4)))))] ++ (us 20)) ?_
 refine wpL.done ?_
 have a30 : Ow 5 1 none (Value.slice none 0 0) ([] : List UInt8).length (([] : List UInt8).map eB) w26 := Ow.nil _ _ _
 have nq_r_st : ∀ x, (none : Option Nat) = some x → ¬ x = st := fun x e => by cases e
 have nq_r_oc : ∀ x, (none : Option Nat) = some x → ¬ x = oc := fun x e => by cases e
 have q_oW_r : Fr none none W.heap.size := Fr.none
 replace h1 := h1.qnone
 replace f19 := f19.qnone
 refine then_n ?_
 refine wpIn_seq ?_
 refine wpIn_seq ?_
 refine plain ?_
 refine wI (d_move rfl) ?_
 have f31 : Ps _ (Seq kB (la.drop 4) (subv 1 4 la.length u1)) _ := subv_seq (q := kB) (l := 4) (h := la.length) (ys := (la.drop 4)) h1 (by omega) (by omega) (by first | (rw [List.take_length]; done) | (simp; done))
 refine wI (d_subv (q := kB) (xs := la) (l := 4) (h := la.length) Try.underlying22 s_ti5 rfl h1 (Bd.some (l := 4) (k := .i64) rfl) Bd.none (by omega) (by omega)) ?_
 refine wO (d_call (xl := [.tmp 18, .const (.int .i64 28)]) (al := [(subv 1 4 la.length u1), (eN 28)]) Try.func39 (by kernel_rfl) rfl rfl rfl (pageParts_ok (la.drop 4) 28 (subv 1 4 la.length u1) _ (Ps.no f31))) ?_
 rintro _ w32 ⟨b34, b35, rfl, g36, g37, n40, a38, a39, o33⟩
 have n_st_b34 : st ≠ b34 := a13.ne g36
 have n_oc_b34 : oc ≠ b34 := a28.ne g36
 have nq_r_b34 : ∀ x, none = some x → ¬ x = b34 := fun x hx e => by have := a30.lts x hx; omega
 have g_oW_b34 : W.heap.size ≤ b34 := Nat.le_trans oW.size g36
 replace h1 := Ps.less (Y := Or1 b34 (Orq none (Or1 oc (Or1 st No)))) h1 (xx_new g36 xx_id)
 replace f19 := Ps.less (Y := Or1 b34 (Orq none (Or1 oc (Or1 st No)))) f19 (xx_new g36 xx_id)
 replace f31 := Ps.less (Y := Or1 b34 (Orq none (Or1 oc (Or1 st No)))) f31 (xx_new g36 xx_id)
 have n_b34_b35 : b34 ≠ b35 := n40
 have n_st_b35 : st ≠ b35 := a13.ne g37
 have n_oc_b35 : oc ≠ b35 := a28.ne g37
 have nq_r_b35 : ∀ x, none = some x → ¬ x = b35 := fun x hx e => by have := a30.lts x hx; omega
 have g_oW_b35 : W.heap.size ≤ b35 := Nat.le_trans oW.size g37
 replace h1 := h1.new o33 g37
 replace f19 := f19.new o33 g37
 replace f31 := f31.new o33 g37
 replace a13 := a13.step0 o33
 replace a28 := a28.step0 o33
 replace a30 := a30.step0 o33
 replace oW := oW.tail0 o33
 refine wF ([u1, undef, (ptr st 0), (ptr oc 0), undef, undef, undef, undef, u1, (eN la.length), (Value.bool (!decide (la.length = 60))), undef, u1, u18, (eN (onesN (la.take 4))), (Value.bool (decide (16 < (onesN (la.take 4))))), undef, u1, (subv 1 4 la.length u1), (Value.func (.func 62) #[] #[(ptr b34 0), (ptr b35 0)])] ++ (us 16)) ?_
 refine wpL.done ?_
 refine then_n ?_
 refine forget (fun zf41 => ([(zf41 0), (zf41 1), (ptr st 0), (ptr oc 0)] ++ (zs zf41 4 15 ++ [(Value.func (.func 62) #[] #[(ptr b34 0), (ptr b35 0)]), undef] ++ (zs zf41 21 15)))) (by kernel_rfl) (fun zf41 => ?_)
 refine wpIn_block ?_
 have h_lt_st := a13.lt
 have h_lt_oc := a28.lt
 have h_lt_b35 := a39.lt
 have h_lt_b34 := a38.lt
 have h_lts_r := a30.lts
 have tq_oW := oW.size
 have nO_b34 : ¬ (Orq none (Or1 oc (Or1 st No))) b34 := (not_orq (fun x hx e => nq_r_b34 x hx e) (not_or1 (Ne.symm n_oc_b34) (not_or1 (Ne.symm n_st_b34) not_no)))
 have nO_b35 : ¬ (Orq none (Or1 oc (Or1 st No))) b35 := (not_orq (fun x hx e => nq_r_b35 x hx e) (not_or1 (Ne.symm n_oc_b35) (not_or1 (Ne.symm n_st_b35) not_no)))
 obtain ⟨D_, hD_⟩ : ∃ D_, w32.heap.size = D_ := ⟨_, rfl⟩
 obtain ⟨L_, hL_⟩ : ∃ L_, w32.heap.size + 1 = L_ := ⟨_, rfl⟩
 refine range_ (encs := (fun x => [x])) (Pv := (Or1 b34 No)) (O := (Orq none (Or1 oc (Or1 st No)))) (xs := (partsV 28 (la.drop 4) (subv 1 4 la.length u1))) (D := D_) (L := L_) (rs := []) hD_ hL_ rfl Try.func62 (by kernel_rfl) rfl (iter_pageParts 28 (la.drop 4) (subv 1 4 la.length u1) b34 b35 (by decide) (by first | omega | (simp; done) | (simp; omega)) a38 a39 n_b34_b35 nO_b34 nO_b35 f31 (or1_skip (or1_skip (orq_mono (or1_mono (or1_mono no_any))))) (in2 in1)) (fun k t => by simp only [Or1, No, or_false] at t; subst t; exact ⟨h_lt_b34, nO_b34⟩) (fun _ => rfl) (lt_orq h_lts_r (lt_or1 h_lt_oc (lt_or1 h_lt_st lt_no))) (fun (pre : List Value) (w_ : World) => ∃ (bo_r : Option Nat) (u_r : Value), (∀ i, i < pre.length → decB (pgW la i) = true) ∧ Only (Or1 b34 (Orq none (Or1 oc (Or1 st No)))) w32 w_ ∧ Arr 32 st [(eN 0), (Value.slice none 0 0)] w_ ∧ Arr 22 oc [u_r] w_ ∧ Arr 3 b35 [(eN 28)] w_ ∧ Dead b34 w_ ∧ Ow 5 1 bo_r u_r (pdTo la pre.length).length ((pdTo la pre.length).map eB) w_ ∧ Fr bo_r none w32.heap.size ∧ (∀ x, bo_r = some x → ¬ x = b34) ∧ (∀ x, bo_r = some x → ¬ x = D_) ∧ (∀ x, bo_r = some x → ¬ x = L_)) (fun c_ (pre : List Value) (w_ : World) => c_ = Code.ret ∧ (∃ (bo_r : Option Nat) (u_r : Value), (decB (pgW la (pre.length - 1)) = false) ∧ (pre.length - 1 < 2) ∧ Only (Or1 b34 (Orq none (Or1 oc (Or1 st No)))) w32 w_ ∧ Arr 32 st [(eN 1), (Value.slice none 0 0)] w_ ∧ Arr 22 oc [u_r] w_ ∧ Arr 3 b35 [(eN 28)] w_ ∧ Dead b34 w_ ∧ Ow 5 1 bo_r u_r (pdTo la (pre.length - 1)).length ((pdTo la (pre.length - 1)).map eB) w_ ∧ Fr bo_r none w32.heap.size ∧ (∀ x, bo_r = some x → ¬ x = b34) ∧ (∀ x, bo_r = some x → ¬ x = D_) ∧ (∀ x, bo_r = some x → ¬ x = L_))) ?_ ?_ ?_ ?_ ?_ ?_
 ·
  rintro pre w_ w2_ ⟨bo_r, u_r, hok, o42, a13, a28, a39, a38, a30, qq_r, nq_r_b34, nq_r_D_, nq_r_L_⟩ ho_
  exact ⟨bo_r, u_r, hok, o42.tail ho_ (stab_tl hD_ hL_ (fun k t => by simp only [Or1, No, or_false] at t; subst t; exact in1)), a13.step ho_ (stab_b hD_ hL_ h_lt_st (not_or1 n_st_b34 not_no)), a28.step ho_ (stab_b hD_ hL_ h_lt_oc (not_or1 n_oc_b34 not_no)), a39.step ho_ (stab_b hD_ hL_ h_lt_b35 (not_or1 (Ne.symm n_b34_b35) not_no)), Nat.lt_of_lt_of_le a38 ho_.size, a30.step ho_ (stab_q nq_r_D_ nq_r_L_ (fun b hb => not_or1 (nq_r_b34 b hb) not_no)), qq_r, nq_r_b34, nq_r_D_, nq_r_L_⟩
 ·
  rintro c_ pre w_ w2_ ⟨hc_, ⟨bo_r, u_r, hbad, hb2, o42, a13, a28, a39, a38, a30, qq_r, nq_r_b34, nq_r_D_, nq_r_L_⟩⟩ ho_
  exact ⟨hc_, ⟨bo_r, u_r, hbad, hb2, o42.tail ho_ (stab_tl hD_ hL_ (fun k t => by simp only [Or1, No, or_false] at t; subst t; exact in1)), a13.step ho_ (stab_b hD_ hL_ h_lt_st (not_or1 n_st_b34 not_no)), a28.step ho_ (stab_b hD_ hL_ h_lt_oc (not_or1 n_oc_b34 not_no)), a39.step ho_ (stab_b hD_ hL_ h_lt_b35 (not_or1 (Ne.symm n_b34_b35) not_no)), Nat.lt_of_lt_of_le a38 ho_.size, a30.step ho_ (stab_q nq_r_D_ nq_r_L_ (fun b hb => not_or1 (nq_r_b34 b hb) not_no)), qq_r, nq_r_b34, nq_r_D_, nq_r_L_⟩⟩
 ·
  refine ⟨none, (Value.slice none 0 0), ?_, ?_, ?_, ?_, ?_, ?_, ?_, ?_, ?_, ?_, ?_⟩
  ·
   exact fun i hi => absurd hi (Nat.not_lt_zero _)
  ·
   exact Only.refl _ _
  ·
   exact a13
  ·
   exact a28
  ·
   exact a39
  ·
   exact a38.lt
  ·
   (try dsimp only)
   all_goals (rw [← pdTo_zero la] at a30; exact a30)
  ·
   exact Fr.same
  ·
   exact nq_r_b34
  ·
   (try dsimp only)
   all_goals (exact fun x hx e => by have := h_lts_r x hx; omega)
  ·
   (try dsimp only)
   all_goals (exact fun x hx e => by have := h_lts_r x hx; omega)
 ·
  intro pre x w1_ hpx_ hI_ hL1_
  obtain ⟨bo_r, u_r, hok, o42, a13, a28, a39, a38, a30, qq_r, nq_r_b34, nq_r_D_, nq_r_L_⟩ := hI_
  replace h1 := Ps.re (X' := (Or1 L_ (Or1 D_ (Or1 b35 (Or1 b34 (Orq bo_r (Or1 oc (Or1 st No)))))))) h1 o42 (or1_skip (or1_mono (orq_mono (or1_mono (or1_mono no_any))))) (xx_new (by omega) (xx_new (Nat.le_of_eq hD_) (xx_or1 (xx_or1 (xx_re qq_r (xx_or1 (xx_or1 xx_id)))))))
  replace f19 := Ps.re (X' := (Or1 L_ (Or1 D_ (Or1 b35 (Or1 b34 (Orq bo_r (Or1 oc (Or1 st No)))))))) f19 o42 (or1_skip (or1_mono (orq_mono (or1_mono (or1_mono no_any))))) (xx_new (by omega) (xx_new (Nat.le_of_eq hD_) (xx_or1 (xx_or1 (xx_re qq_r (xx_or1 (xx_or1 xx_id)))))))
  replace f31 := Ps.re (X' := (Or1 L_ (Or1 D_ (Or1 b35 (Or1 b34 (Orq bo_r (Or1 oc (Or1 st No)))))))) f31 o42 (or1_skip (or1_mono (orq_mono (or1_mono (or1_mono no_any))))) (xx_new (by omega) (xx_new (Nat.le_of_eq hD_) (xx_or1 (xx_or1 (xx_re qq_r (xx_or1 (xx_or1 xx_id)))))))
  replace oW := oW.tail o42 (tl_new g_oW_b34 (tl_q q_oW_r (fun _ e => by cases e) (tl_new g_oW_oc (tl_new g_oW_st tl_no))))
  replace q_oW_r := qtr qq_r q_oW_r tq_oW
  replace nq_r_st := nqs nq_r_st qq_r h_lt_st
  replace nq_r_oc := nqs nq_r_oc qq_r h_lt_oc
  replace nq_r_b35 := nqs nq_r_b35 qq_r h_lt_b35
  have q_o42_r : Fr bo_r none w32.heap.size := qq_r
  have n_st_D_ : st ≠ D_ := by omega
  have n_oc_D_ : oc ≠ D_ := by omega
  have n_b35_D_ : b35 ≠ D_ := by omega
  have n_b34_D_ : b34 ≠ D_ := by omega
  have g_oW_D_ : W.heap.size ≤ D_ := by omega
  have g_o42_D_ : w32.heap.size ≤ D_ := by omega
  have n_st_L_ : st ≠ L_ := by omega
  have n_oc_L_ : oc ≠ L_ := by omega
  have n_b35_L_ : b35 ≠ L_ := by omega
  have n_b34_L_ : b34 ≠ L_ := by omega
  have g_oW_L_ : W.heap.size ≤ L_ := by omega
  have g_o42_L_ : w32.heap.size ≤ L_ := by omega
  have n_D__L_ : D_ ≠ L_ := by omega
  have aL_ : Dead L_ w1_ := hL1_
  have aD_ : Dead D_ w1_ := by unfold Dead; omega
  refine wp_eq (l' := ([(zf41 0), (zf41 1), (ptr st 0), (ptr oc 0)] ++ (zs zf41 4 15 ++ [(Value.func (.func 62) #[] #[(ptr b34 0), (ptr b35 0)]), x] ++ (zs zf41 21 15)))) (by kernel_rfl) ?_
  refine plain ?_
  refine wI (d_assign rfl) ?_
  refine wF ([(zf41 0), (zf41 1), (ptr st 0), (ptr oc 0), x] ++ (zs zf41 5 14 ++ [(Value.func (.func 62) #[] #[(ptr b34 0), (ptr b35 0)]), x] ++ (zs zf41 21 15))) ?_
  refine wpL.done ?_
  refine then_n ?_
  refine ⟨Only.refl _ _, fun w2_ oL_ _ => ?_⟩
  replace h1 := h1.stepb oL_ in1
  replace f19 := f19.stepb oL_ in1
  replace f31 := f31.stepb oL_ in1
  replace a13 := a13.step oL_ (fun e => absurd e n_st_L_)
  replace a28 := a28.step oL_ (fun e => absurd e n_oc_L_)
  replace a39 := a39.step oL_ (fun e => absurd e n_b35_L_)
  replace a38 := a38.step oL_ (fun e => absurd e n_b34_L_)
  replace aD_ := aD_.step oL_ (fun e => absurd e n_D__L_)
  replace a30 := a30.step oL_ (fun x hx e => nq_r_L_ x hx e)
  replace oW := oW.tailb oL_ g_oW_L_
  replace o42 := o42.tailb oL_ g_o42_L_
  replace aL_ : Dead L_ w2_ := Nat.lt_of_lt_of_le aL_ oL_.size
  have oR_ : Only (fun k => (Orq none (Or1 oc (Or1 st No))) k ∨ L_ < k) w2_ w2_ := Only.refl _ _
  have nqD0_r := nq_r_D_
  have nqL0_r := nq_r_L_
  have q_oR__r : Fr bo_r bo_r w2_.heap.size := Fr.same
  obtain ⟨hp_, hx_⟩ := parts_in hpx_
  have fx_ := pv_seq (n := 28) (by decide) f31 pre.length hp_
  rw [← hx_] at fx_
  refine wpIn_block ?_
  refine wpIn_seq ?_
  refine plain ?_
  refine wI (d_move rfl) ?_
  refine wO (d_call (xl := [.tmp 22]) (al := [x]) Try.func45 (by kernel_rfl) rfl rfl rfl (bchDecode_ok (pgW la pre.length) x _ (Ps.no fx_) (by have := pgW_len la pre.length; first | omega | (simp; done) | (simp; omega)))) ?_
  rintro _ w43 ⟨u45, rfl, f46, o44⟩
  replace f46 := f46.less (Y := (Or1 L_ (Or1 D_ (Or1 b35 (Or1 b34 (Orq bo_r (Or1 oc (Or1 st (Old W.heap.size))))))))) (or1_old aL_.lt (or1_old aD_.lt (or1_old a39.lt (or1_old a38.lt (orq_old a30.lts (or1_old a28.lt (or1_old a13.lt (old_old oW.size))))))))
  replace h1 := h1.step0 o44
  replace f19 := f19.step0 o44
  replace f31 := f31.step0 o44
  replace fx_ := fx_.step0 o44
  replace a13 := a13.step0 o44
  replace a28 := a28.step0 o44
  replace a39 := a39.step0 o44
  replace a38 := a38.step0 o44
  replace aD_ := aD_.step0 o44
  replace aL_ := aL_.step0 o44
  replace a30 := a30.step0 o44
  replace oW := oW.tail0 o44
  replace o42 := o42.tail0 o44
  replace oR_ := oR_.tail0 o44
  refine wI (d_move rfl) ?_
  refine wF ([(zf41 0), (zf41 1), (ptr st 0), (ptr oc 0), x] ++ (zs zf41 5 14 ++ [(Value.func (.func 62) #[] #[(ptr b34 0), (ptr b35 0)]), x, (Value.tuple #[u45, (eN (decN (pgW la pre.length))), (Value.bool (decB (pgW la pre.length)))]), x, (Value.tuple #[u45, (eN (decN (pgW la pre.length))), (Value.bool (decB (pgW la pre.length)))])] ++ (zs zf41 24 12))) ?_
  refine wI (d_extract (v := u45) rfl rfl) ?_
  refine wI (d_extract (v := (eN (decN (pgW la pre.length)))) rfl rfl) ?_
  refine wI (d_extract (v := (Value.bool (decB (pgW la pre.length)))) rfl rfl) ?_
  refine wF ([(zf41 0), (zf41 1), (ptr st 0), (ptr oc 0), x] ++ (zs zf41 5 14 ++ [(Value.func (.func 62) #[] #[(ptr b34 0), (ptr b35 0)]), x, (Value.tuple #[u45, (eN (decN (pgW la pre.length))), (Value.bool (decB (pgW la pre.length)))]), x, (Value.tuple #[u45, (eN (decN (pgW la pre.length))), (Value.bool (decB (pgW la pre.length)))]), u45, (eN (decN (pgW la pre.length))), (Value.bool (decB (pgW la pre.length)))] ++ (zs zf41 27 9))) ?_
  refine wI (d_assign rfl) ?_
  refine wI (d_assign rfl) ?_
  refine wI (d_assign rfl) ?_
  refine wF ([(zf41 0), (zf41 1), (ptr st 0), (ptr oc 0), x, u45, (eN (decN (pgW la pre.length))), (Value.bool (decB (pgW la pre.length)))] ++ (zs zf41 8 11 ++ [(Value.func (.func 62) #[] #[(ptr b34 0), (ptr b35 0)]), x, (Value.tuple #[u45, (eN (decN (pgW la pre.length))), (Value.bool (decB (pgW la pre.length)))]), x, (Value.tuple #[u45, (eN (decN (pgW la pre.length))), (Value.bool (decB (pgW la pre.length)))]), u45, (eN (decN (pgW la pre.length))), (Value.bool (decB (pgW la pre.length)))] ++ (zs zf41 27 9))) ?_
  refine wpL.done ?_
  refine then_n ?_
  refine forget (fun zf51 => ([(zf51 0), (zf51 1), (ptr st 0), (ptr oc 0), (zf51 4), u45, (zf51 6), (Value.bool (decB (pgW la pre.length)))] ++ (zs zf51 8 11 ++ [(Value.func (.func 62) #[] #[(ptr b34 0), (ptr b35 0)]), x] ++ (zs zf51 21 15)))) (by kernel_rfl) (fun zf51 => ?_)
  refine wpIn_seq ?_
  refine wpIn_seq ?_
  refine plain ?_
  refine wI (d_move rfl) ?_
  refine wI (d_not rfl rfl) ?_
  refine wF ([(zf51 0), (zf51 1), (ptr st 0), (ptr oc 0), (zf51 4), u45, (zf51 6), (Value.bool (decB (pgW la pre.length)))] ++ (zs zf51 8 11 ++ [(Value.func (.func 62) #[] #[(ptr b34 0), (ptr b35 0)]), x] ++ (zs zf51 21 6 ++ [(Value.bool (decB (pgW la pre.length))), (Value.bool (!(decB (pgW la pre.length))))] ++ (zs zf51 29 7)))) ?_
  refine wpL.done ?_
  refine then_n ?_
  refine cond_b rfl (fun k0 => ?_) (fun k0 => ?_)
  ·
   refine wpIn_seq ?_
   refine plain ?_
   refine wI (d_buildS (pl := [(0, 1), (1, 1)]) (zs := [(eN 0), (Value.slice none 0 0)]) (cs := [(eN 1), (Value.slice none 0 0)]) Try.underlying32 s_ti32 ⟨_, _, _, _, rfl, s_ti3, ⟨_, _, _, _, rfl, s_ti22, rfl⟩⟩ rfl (parts_cons (vs := [(eN 1)]) (cells_of (v := (eN 1)) rfl rfl) parts_nil) rfl) ?_
   refine wO (d_storeAg (cs' := [(eN 1), (Value.slice none 0 0)]) s_ti32 rfl rfl rfl (oc_cons rfl (oc_cons rfl oc_nil)) a13 (by decide) rfl) ?_
   rintro _ w52 ⟨a53, o54⟩
   replace h1 := h1.stepb o54 (in2 (in2 (in2 (in2 (inq (in2 in1))))))
   replace f19 := f19.stepb o54 (in2 (in2 (in2 (in2 (inq (in2 in1))))))
   replace f31 := f31.stepb o54 (in2 (in2 (in2 (in2 (inq (in2 in1))))))
   replace fx_ := fx_.stepb o54 (in2 (in2 (in2 (in2 (inq (in2 in1))))))
   replace f46 := f46.stepb o54 (in2 (in2 (in2 (in2 (inq (in2 in1))))))
   replace a28 := a28.step o54 (fun e => absurd e (Ne.symm n_st_oc))
   replace a39 := a39.step o54 (fun e => absurd e (Ne.symm n_st_b35))
   replace a38 := a38.step o54 (fun e => absurd e (Ne.symm n_st_b34))
   replace aD_ := aD_.step o54 (fun e => absurd e (Ne.symm n_st_D_))
   replace aL_ := aL_.step o54 (fun e => absurd e (Ne.symm n_st_L_))
   replace a30 := a30.step o54 (fun x hx e => nq_r_st x hx e)
   replace oW := oW.tailb o54 g_oW_st
   replace o42 := o42.tail o54 (fun k _ e => by have : k = st := e; rw [this]; exact (in2 (inq (in2 in1))))
   replace oR_ := oR_.tail o54 (fun k _ e => by have : k = st := e; rw [this]; exact (Or.inl (inq (in2 in1))))
   refine wF ([(zf51 0), (zf51 1), (ptr st 0), (ptr oc 0), (zf51 4), u45, (zf51 6), (Value.bool (decB (pgW la pre.length)))] ++ (zs zf51 8 11 ++ [(Value.func (.func 62) #[] #[(ptr b34 0), (ptr b35 0)]), x] ++ (zs zf51 21 6 ++ [(Value.bool (decB (pgW la pre.length))), (Value.bool (!(decB (pgW la pre.length)))), (Value.agg #[(eN 1), (Value.slice none 0 0)])] ++ (zs zf51 30 6)))) ?_
   refine wpL.done ?_
   refine then_n ?_
   refine forget (fun zf55 => ([(zf55 0), (zf55 1), (ptr st 0)] ++ (zs zf55 3 33))) (by kernel_rfl) (fun zf55 => ?_)
   refine wpIn_ret ?_
   refine then_r (inb_r ?_)
   refine ⟨oR_, rfl, bo_r, u_r, ?_, ?_, ?_, ?_, ?_, ?_, ?_, ?_, ?_, ?_, ?_, ?_⟩
   ·
    (try dsimp only)
    all_goals (rw [List.length_append, List.length_singleton, Nat.add_sub_cancel]; simpa using k0)
   ·
    (try dsimp only)
    all_goals (have : (la.drop 4).length = 56 := (by rw [List.length_drop, c0]); rw [List.length_append, List.length_singleton, Nat.add_sub_cancel]; omega)
   ·
    exact o42
   ·
    exact a53
   ·
    exact a28
   ·
    exact a39
   ·
    exact a38
   ·
    (try dsimp only)
    all_goals (rw [List.length_append, List.length_singleton, Nat.add_sub_cancel]; exact a30)
   ·
    exact q_o42_r
   ·
    exact nq_r_b34
   ·
    exact nq_r_D_
   ·
    exact nq_r_L_
  refine wpIn_skip ?_
  refine then_n ?_
  refine plain ?_
  refine wI (d_load (v := u_r) ⟨_, Try.underlying22, rfl⟩ rfl a28 rfl) ?_
  refine wI (d_move rfl) ?_
  refine wO (d_append Try.underlying22 Try.underlying22 s_ti5 rfl rfl rfl a30 (SrcV.of_seq f46 (fun _ => rfl)) (by have := pdTo_len la pre.length; have := decD_len (pgW la pre.length); have : (la.drop 4).length = 56 := (by rw [List.length_drop, c0]); omega) (by have := pdTo_len la pre.length; have := decD_len (pgW la pre.length); have : (la.drop 4).length = 56 := (by rw [List.length_drop, c0]); omega) rfl) ?_
  rintro u56 w57 ⟨bo58, a59, o60, q61⟩
  replace a59 : Ow 5 1 bo58 u56 ((pdTo la pre.length) ++ (decD (pgW la pre.length))).length (((pdTo la pre.length) ++ (decD (pgW la pre.length))).map eB) w57 := by rw [List.length_append, List.map_append]; exact a59
  replace h1 := h1.gr o60 (fun k e => (.inr (.inr (.inr (.inr (.inl e)))))) (xx_or1 (xx_or1 (xx_or1 (xx_or1 (xx_re (Fr.of_or q61) (xx_or1 (xx_or1 xx_id)))))))
  replace f19 := f19.gr o60 (fun k e => (.inr (.inr (.inr (.inr (.inl e)))))) (xx_or1 (xx_or1 (xx_or1 (xx_or1 (xx_re (Fr.of_or q61) (xx_or1 (xx_or1 xx_id)))))))
  replace f31 := f31.gr o60 (fun k e => (.inr (.inr (.inr (.inr (.inl e)))))) (xx_or1 (xx_or1 (xx_or1 (xx_or1 (xx_re (Fr.of_or q61) (xx_or1 (xx_or1 xx_id)))))))
  replace fx_ := fx_.gr o60 (fun k e => (.inr (.inr (.inr (.inr (.inl e)))))) (xx_or1 (xx_or1 (xx_or1 (xx_or1 (xx_re (Fr.of_or q61) (xx_or1 (xx_or1 xx_id)))))))
  replace f46 := f46.gr o60 (fun k e => (.inr (.inr (.inr (.inr (.inl e)))))) (xx_or1 (xx_or1 (xx_or1 (xx_or1 (xx_re (Fr.of_or q61) (xx_or1 (xx_or1 xx_id)))))))
  have nq2 := nqs nq_r_st (Fr.of_or q61) a13.lt
  replace a13 := a13.step o60 (fun e => nq_r_st _ e rfl)
  replace nq_r_st := nq2
  clear nq2
  have nq2 := nqs nq_r_oc (Fr.of_or q61) a28.lt
  replace a28 := a28.step o60 (fun e => nq_r_oc _ e rfl)
  replace nq_r_oc := nq2
  clear nq2
  have nq2 := nqs nq_r_b35 (Fr.of_or q61) a39.lt
  replace a39 := a39.step o60 (fun e => nq_r_b35 _ e rfl)
  replace nq_r_b35 := nq2
  clear nq2
  have nq2 := nqs nq_r_b34 (Fr.of_or q61) a38.lt
  replace a38 := a38.step o60 (fun e => nq_r_b34 _ e rfl)
  replace nq_r_b34 := nq2
  clear nq2
  have nq2 := nqs nq_r_D_ (Fr.of_or q61) aD_.lt
  replace aD_ := aD_.step o60 (fun e => nq_r_D_ _ e rfl)
  replace nq_r_D_ := nq2
  clear nq2
  have nq2 := nqs nq_r_L_ (Fr.of_or q61) aL_.lt
  replace aL_ := aL_.step o60 (fun e => nq_r_L_ _ e rfl)
  replace nq_r_L_ := nq2
  clear nq2
  have tq := oW.size
  replace oW := oW.tailr o60 q_oW_r (fun _ e => by cases e)
  replace q_oW_r := qtr (Fr.of_or q61) q_oW_r tq
  clear tq
  have tq := o42.size
  replace o42 := o42.tailr o60 q_o42_r (fun k e => (.inr (.inl e)))
  replace q_o42_r := qtr (Fr.of_or q61) q_o42_r tq
  clear tq
  have tq := oR_.size
  replace oR_ := oR_.tailr o60 q_oR__r (q_T qq_r (fun k e => (.inl e)) nqD0_r nqL0_r hD_ hL_)
  replace q_oR__r := qtr (Fr.of_or q61) q_oR__r tq
  clear tq
  refine wF ([(zf51 0), (zf51 1), (ptr st 0), (ptr oc 0), (zf51 4), u45, (zf51 6), (Value.bool (decB (pgW la pre.length)))] ++ (zs zf51 8 11 ++ [(Value.func (.func 62) #[] #[(ptr b34 0), (ptr b35 0)]), x] ++ (zs zf51 21 6 ++ [(Value.bool (decB (pgW la pre.length))), (Value.bool (!(decB (pgW la pre.length)))), (zf51 29), u_r, u45, u56, (zf51 33), (zf51 34), (zf51 35)]))) ?_
  refine wO (d_store s_ti22 rfl rfl (Ow.one a59) a28 (nb rfl) rfl) ?_
  rintro _ w62 ⟨a63, o64⟩
  replace h1 := h1.stepb o64 (in2 (in2 (in2 (in2 (inq in1)))))
  replace f19 := f19.stepb o64 (in2 (in2 (in2 (in2 (inq in1)))))
  replace f31 := f31.stepb o64 (in2 (in2 (in2 (in2 (inq in1)))))
  replace fx_ := fx_.stepb o64 (in2 (in2 (in2 (in2 (inq in1)))))
  replace f46 := f46.stepb o64 (in2 (in2 (in2 (in2 (inq in1)))))
  replace a13 := a13.step o64 (fun e => absurd e n_st_oc)
  replace a39 := a39.step o64 (fun e => absurd e (Ne.symm n_oc_b35))
  replace a38 := a38.step o64 (fun e => absurd e (Ne.symm n_oc_b34))
  replace aD_ := aD_.step o64 (fun e => absurd e (Ne.symm n_oc_D_))
  replace aL_ := aL_.step o64 (fun e => absurd e (Ne.symm n_oc_L_))
  replace a59 := a59.step o64 (fun x hx e => nq_r_oc x hx e)
  replace oW := oW.tailb o64 g_oW_oc
  replace o42 := o42.tail o64 (fun k _ e => by have : k = oc := e; rw [this]; exact (in2 (inq in1)))
  replace oR_ := oR_.tail o64 (fun k _ e => by have : k = oc := e; rw [this]; exact (Or.inl (inq in1)))
  refine wF ([(zf51 0), (zf51 1), (ptr st 0), (ptr oc 0), (zf51 4), u45, (zf51 6), (Value.bool (decB (pgW la pre.length)))] ++ (zs zf51 8 11 ++ [(Value.func (.func 62) #[] #[(ptr b34 0), (ptr b35 0)]), x] ++ (zs zf51 21 6 ++ [(Value.bool (decB (pgW la pre.length))), (Value.bool (!(decB (pgW la pre.length)))), (zf51 29), u_r, u45, u56, (zf51 33), (zf51 34), (zf51 35)]))) ?_
  refine wpL.done ?_
  refine inb_n ?_
  refine ⟨oR_, bo58, u56, ?_, ?_, ?_, ?_, ?_, ?_, ?_, ?_, ?_, ?_, ?_⟩
  ·
   (try dsimp only)
   all_goals (exact fun i hi => by rw [List.length_append, List.length_singleton] at hi; exact (Nat.lt_succ_iff_lt_or_eq.1 hi).elim (hok i) (fun e => by rw [e]; simpa using k0))
  ·
   exact o42
  ·
   exact a13
  ·
   exact a63
  ·
   exact a39
  ·
   exact a38
  ·
   (try dsimp only)
   all_goals (rw [pdTo_snoc] at a59; rw [List.length_append]; exact a59)
  ·
   exact q_o42_r
  ·
   exact nq_r_b34
  ·
   exact nq_r_D_
  ·
   exact nq_r_L_
 ·
  intro w1_ hI_ aD_
  obtain ⟨bo_r, u_r, hok, o42, a13, a28, a39, a38, a30, qq_r, nq_r_b34, nq_r_D_, nq_r_L_⟩ := hI_
  replace h1 := Ps.re (X' := (Or1 D_ (Or1 b35 (Or1 b34 (Orq bo_r (Or1 oc (Or1 st No))))))) h1 o42 (or1_skip (or1_mono (orq_mono (or1_mono (or1_mono no_any))))) (xx_new (Nat.le_of_eq hD_) (xx_or1 (xx_or1 (xx_re qq_r (xx_or1 (xx_or1 xx_id))))))
  replace f19 := Ps.re (X' := (Or1 D_ (Or1 b35 (Or1 b34 (Orq bo_r (Or1 oc (Or1 st No))))))) f19 o42 (or1_skip (or1_mono (orq_mono (or1_mono (or1_mono no_any))))) (xx_new (Nat.le_of_eq hD_) (xx_or1 (xx_or1 (xx_re qq_r (xx_or1 (xx_or1 xx_id))))))
  replace f31 := Ps.re (X' := (Or1 D_ (Or1 b35 (Or1 b34 (Orq bo_r (Or1 oc (Or1 st No))))))) f31 o42 (or1_skip (or1_mono (orq_mono (or1_mono (or1_mono no_any))))) (xx_new (Nat.le_of_eq hD_) (xx_or1 (xx_or1 (xx_re qq_r (xx_or1 (xx_or1 xx_id))))))
  replace oW := oW.tail o42 (tl_new g_oW_b34 (tl_q q_oW_r (fun _ e => by cases e) (tl_new g_oW_oc (tl_new g_oW_st tl_no))))
  replace q_oW_r := qtr qq_r q_oW_r tq_oW
  replace nq_r_st := nqs nq_r_st qq_r h_lt_st
  replace nq_r_oc := nqs nq_r_oc qq_r h_lt_oc
  replace nq_r_b35 := nqs nq_r_b35 qq_r h_lt_b35
  have q_o42_r : Fr bo_r none w32.heap.size := qq_r
  have n_st_D_ : st ≠ D_ := by omega
  have n_oc_D_ : oc ≠ D_ := by omega
  have n_b35_D_ : b35 ≠ D_ := by omega
  have n_b34_D_ : b34 ≠ D_ := by omega
  have g_oW_D_ : W.heap.size ≤ D_ := by omega
  have g_o42_D_ : w32.heap.size ≤ D_ := by omega
  have hl_ := parts_len 28 (la.drop 4) (subv 1 4 la.length u1); have hl2_ : (la.drop 4).length = 56 := by rw [List.length_drop, c0]
  refine inb_n (then_n ?_)
  refine wpIn_seq ?_
  refine plain ?_
  refine wI (d_load (v := u_r) ⟨_, Try.underlying22, rfl⟩ rfl a28 rfl) ?_
  refine wO (d_call (xl := [.tmp 33]) (al := [u_r]) Try.func41 (by kernel_rfl) rfl rfl rfl (cloneB_ok (pdTo la (partsV 28 (la.drop 4) (subv 1 4 la.length u1)).length) u_r _ (Ps.no (a30.seq (X := No) (fun _ _ h => h))) (by have := pdTo_len la ((partsV 28 (la.drop 4) (subv 1 4 la.length u1)).length); first | omega | (simp; done) | (simp; omega)))) ?_
  rintro u67 w65 f68
  obtain ⟨bo69, f68, g70, o66⟩ := f68
  have nq_r2_st := nq_new g70 a13.lt
  have nq_r2_oc := nq_new g70 a28.lt
  have nq_r2_b35 := nq_new g70 a39.lt
  have nq_r2_b34 := nq_new g70 a38.lt
  have nq_r2_D_ := nq_new g70 aD_.lt
  have nqq_r_r2 := nqq_new g70 a30.lts
  have q_oW_r2 := qnew g70 oW.size
  have q_o42_r2 := qnew g70 o42.size
  replace h1 := h1.newq o66 g70
  replace f19 := f19.newq o66 g70
  replace f31 := f31.newq o66 g70
  replace a13 := a13.step0 o66
  replace a28 := a28.step0 o66
  replace a39 := a39.step0 o66
  replace a38 := a38.step0 o66
  replace aD_ := aD_.step0 o66
  replace a30 := a30.step0 o66
  replace oW := oW.tail0 o66
  replace o42 := o42.tail0 o66
  refine wI (d_buildS (pl := [(0, 1), (1, 1)]) (zs := [(eN 0), (Value.slice none 0 0)]) (cs := [(eN 2), u67]) Try.underlying32 s_ti32 ⟨_, _, _, _, rfl, s_ti3, ⟨_, _, _, _, rfl, s_ti22, rfl⟩⟩ rfl (parts_cons (vs := [(eN 2)]) (cells_of (v := (eN 2)) rfl rfl) (parts_cons (vs := [u67]) (cells_of (v := u67) rfl (Ow.cells f68)) parts_nil)) rfl) ?_
  refine wF ([(zf41 0), (zf41 1), (ptr st 0), (ptr oc 0)] ++ (zs zf41 4 15 ++ [(Value.func (.func 62) #[] #[(ptr b34 0), (ptr b35 0)]), undef] ++ (zs zf41 21 12 ++ [u_r, u67, (Value.agg #[(eN 2), u67])]))) ?_
  refine wO (d_storeAg (cs' := [(eN 2), u67]) s_ti32 rfl rfl rfl (oc_cons rfl (oc_cons (Ow.one f68) oc_nil)) a13 (by decide) rfl) ?_
  rintro _ w71 ⟨a72, o73⟩
  replace h1 := h1.stepb o73 (inq (in2 (in2 (in2 (inq (in2 in1))))))
  replace f19 := f19.stepb o73 (inq (in2 (in2 (in2 (inq (in2 in1))))))
  replace f31 := f31.stepb o73 (inq (in2 (in2 (in2 (inq (in2 in1))))))
  replace a28 := a28.step o73 (fun e => absurd e (Ne.symm n_st_oc))
  replace a39 := a39.step o73 (fun e => absurd e (Ne.symm n_st_b35))
  replace a38 := a38.step o73 (fun e => absurd e (Ne.symm n_st_b34))
  replace aD_ := aD_.step o73 (fun e => absurd e (Ne.symm n_st_D_))
  replace a30 := a30.step o73 (fun x hx e => nq_r_st x hx e)
  replace f68 := f68.step o73 (fun x hx e => nq_r2_st x hx e)
  replace oW := oW.tailb o73 g_oW_st
  replace o42 := o42.tail o73 (fun k _ e => by have : k = st := e; rw [this]; exact (in2 (inq (in2 in1))))
  refine wF ([(zf41 0), (zf41 1), (ptr st 0), (ptr oc 0)] ++ (zs zf41 4 15 ++ [(Value.func (.func 62) #[] #[(ptr b34 0), (ptr b35 0)]), undef] ++ (zs zf41 21 12 ++ [u_r, u67, (Value.agg #[(eN 2), u67])]))) ?_
  refine wpL.done ?_
  refine then_n ?_
  refine wpIn_ret ?_
  refine leave (v := (Value.agg #[(eN 2), u67])) (marks_ok aD_) (fun w74 o75 => ⟨resC Try.results21 ⟨_, Try.underlying32, rfl⟩ s_ti32 rfl (a72.step (only_mem o75) (fun e => absurd e n_st_D_)) rfl, ?_⟩)
  replace o75 := only_mem o75
  replace h1 := h1.stepb o75 (inq in1)
  replace f19 := f19.stepb o75 (inq in1)
  replace f31 := f31.stepb o75 (inq in1)
  replace a72 := a72.step o75 (fun e => absurd e n_st_D_)
  replace a28 := a28.step o75 (fun e => absurd e n_oc_D_)
  replace a39 := a39.step o75 (fun e => absurd e n_b35_D_)
  replace a38 := a38.step o75 (fun e => absurd e n_b34_D_)
  replace a30 := a30.step o75 (fun x hx e => nq_r_D_ x hx e)
  replace f68 := f68.step o75 (fun x hx e => nq_r2_D_ x hx e)
  replace oW := oW.tailb o75 g_oW_D_
  replace o42 := o42.tailb o75 g_o42_D_
  exact RPg.of (pgD_good2 c0 c1 _ hok) (Ow.seq f68 (old_q q_oW_r2)) oW
 ·
  rintro c_ pre w1_ hpx_ ⟨rfl, ⟨bo_r, u_r, hbad, hb2, o42, a13, a28, a39, a38, a30, qq_r, nq_r_b34, nq_r_D_, nq_r_L_⟩⟩ aD_
  replace h1 := Ps.re (X' := (Or1 D_ (Or1 b35 (Or1 b34 (Orq bo_r (Or1 oc (Or1 st No))))))) h1 o42 (or1_skip (or1_mono (orq_mono (or1_mono (or1_mono no_any))))) (xx_new (Nat.le_of_eq hD_) (xx_or1 (xx_or1 (xx_re qq_r (xx_or1 (xx_or1 xx_id))))))
  replace f19 := Ps.re (X' := (Or1 D_ (Or1 b35 (Or1 b34 (Orq bo_r (Or1 oc (Or1 st No))))))) f19 o42 (or1_skip (or1_mono (orq_mono (or1_mono (or1_mono no_any))))) (xx_new (Nat.le_of_eq hD_) (xx_or1 (xx_or1 (xx_re qq_r (xx_or1 (xx_or1 xx_id))))))
  replace f31 := Ps.re (X' := (Or1 D_ (Or1 b35 (Or1 b34 (Orq bo_r (Or1 oc (Or1 st No))))))) f31 o42 (or1_skip (or1_mono (orq_mono (or1_mono (or1_mono no_any))))) (xx_new (Nat.le_of_eq hD_) (xx_or1 (xx_or1 (xx_re qq_r (xx_or1 (xx_or1 xx_id))))))
  replace oW := oW.tail o42 (tl_new g_oW_b34 (tl_q q_oW_r (fun _ e => by cases e) (tl_new g_oW_oc (tl_new g_oW_st tl_no))))
  replace q_oW_r := qtr qq_r q_oW_r tq_oW
  replace nq_r_st := nqs nq_r_st qq_r h_lt_st
  replace nq_r_oc := nqs nq_r_oc qq_r h_lt_oc
  replace nq_r_b35 := nqs nq_r_b35 qq_r h_lt_b35
  have q_o42_r : Fr bo_r none w32.heap.size := qq_r
  have n_st_D_ : st ≠ D_ := by omega
  have n_oc_D_ : oc ≠ D_ := by omega
  have n_b35_D_ : b35 ≠ D_ := by omega
  have n_b34_D_ : b34 ≠ D_ := by omega
  have g_oW_D_ : W.heap.size ≤ D_ := by omega
  have g_o42_D_ : w32.heap.size ≤ D_ := by omega
  refine wpIn_ret ?_
  refine inb_r (then_r ?_)
  refine leave (v := (Value.agg #[(eN 1), (Value.slice none 0 0)])) (marks_ok aD_) (fun w76 o77 => ⟨resC Try.results21 ⟨_, Try.underlying32, rfl⟩ s_ti32 rfl (a13.step (only_mem o77) (fun e => absurd e n_st_D_)) rfl, ?_⟩)
  replace o77 := only_mem o77
  replace h1 := h1.stepb o77 in1
  replace f19 := f19.stepb o77 in1
  replace f31 := f31.stepb o77 in1
  replace a13 := a13.step o77 (fun e => absurd e n_st_D_)
  replace a28 := a28.step o77 (fun e => absurd e n_oc_D_)
  replace a39 := a39.step o77 (fun e => absurd e n_b35_D_)
  replace a38 := a38.step o77 (fun e => absurd e n_b34_D_)
  replace a30 := a30.step o77 (fun x hx e => nq_r_D_ x hx e)
  replace oW := oW.tailb o77 g_oW_D_
  replace o42 := o42.tailb o77 g_o42_D_
  exact RPg.of (pgD_bad c0 c1 (by omega) hbad) seq_nil oW

set_option maxRecDepth 20000 in
set_option maxHeartbeats 1000000 in
theorem ref8Encode_ok (la : List UInt8) (u1 : Value) (W : World) (h1 : Ps No (Seq kB la u1) W) (g1 : la.length ≤ 1048576) :
    CW Try.prog 18 #[u1] W (Rt (ROw 5 eB (pgE la) W)) := by
 have oW : Only No W W := Only.refl _ _
 refine enter (al := [u1]) (k := 17) (l := ([u1] ++ (us 17))) Try.func18 rfl Try.ntmps18 rfl rfl ?_
 refine wpIn_seq ?_
 refine plain ?_
 refine wI (d_assign rfl) ?_
 refine wF ([u1, undef, (Value.slice none 0 0)] ++ (us 15)) ?_
 refine wpL.done ?_
 refine then_n ?_
 refine wpIn_seq ?_
 refine wpIn_seq ?_
 refine plain ?_
 refine wI (d_move rfl) ?_
 refine wI (d_lenS rfl Try.underlying22 rfl h1) ?_
 refine wI (n_neq (a := la.length) (b := 48) rfl rfl rfl) ?_
 refine wF ([u1, undef, (Value.slice none 0 0), undef, u1, (eN la.length), (Value.bool (!decide (la.length = 48)))] ++ (us 11)) ?_
 refine wpL.done ?_
 refine then_n ?_
 refine cond_un rfl (fun c0 => ?_) (fun c0 => ?_)
 ·
  refine wpIn_seq ?_
  refine plain ?_
  refine wI (d_assign rfl) ?_
  refine wF ([u1, undef, (Value.slice none 0 0), undef, u1, (eN la.length), (Value.bool (!decide (la.length = 48)))] ++ (us 11)) ?_
  refine wpL.done ?_
  refine then_n ?_
  refine wpIn_ret ?_
  refine then_r ?_
  refine leave0 (v := (Value.slice none 0 0)) (res1 Try.results18 rfl) ?_
  exact ROw.nil ((pgE_no c0).symm) oW
 refine wpIn_skip ?_
 refine then_n ?_
 refine wpIn_seq ?_
 refine plain ?_
 refine wO (d_make1 (n := 4) Try.underlying22 s_ti5 rfl rfl (by omega) (by omega) rfl) ?_
 rintro _ w12 ⟨b11, rfl, g13, a14, o15⟩
 replace a14 : Arr 5 b11 ((List.replicate 4 0).map eB) w12 := by rw [List.map_replicate]; exact a14
 have l_b11 : (List.replicate 4 0 : List UInt8).length = 4 := by simp
 have g_oW_b11 : W.heap.size ≤ b11 := Nat.le_trans oW.size g13
 replace h1 := h1.new o15 g13
 replace oW := oW.tail0 o15
 refine wI (d_assign rfl) ?_
 refine wF ([u1, undef, (Value.slice none 0 0), (sli b11 0 4 4), u1, (eN la.length), (Value.bool (!decide (la.length = 48))), (sli b11 0 4 4)] ++ (us 10)) ?_
 refine wpL.done ?_
 refine then_n ?_
 refine wpIn_seq ?_
 refine plain ?_
 refine wI (d_move rfl) ?_
 refine wI (d_move rfl) ?_
 refine wO (d_sliceS (xs := la) (ys := (la.take 24)) (l := 0) (h := 24) Try.underlying22 s_ti5 rfl h1 Bd.none (Bd.some (l := 24) (k := .i64) rfl) (by omega) (by omega) (by simp)) ?_
 rintro u16 _ ⟨f17, rfl⟩
 refine wF ([u1, undef, (Value.slice none 0 0), (sli b11 0 4 4), u1, (eN la.length), (Value.bool (!decide (la.length = 48))), (sli b11 0 4 4), (sli b11 0 4 4), u1, u16] ++ (us 7)) ?_
 refine wO (d_call (xl := [.tmp 10]) (al := [u16]) Try.func42 (by kernel_rfl) rfl rfl rfl (ref4Enc_ok (la.take 24) u16 _ (Ps.no f17) (by first | omega | (simp; done) | (simp; omega)))) ?_
 rintro u20 w18 f21
 replace f21 := f21.ps
 obtain ⟨f21, o19⟩ := f21
 replace f21 := f21.less (Y := (Or1 b11 (Old W.heap.size))) (or1_old a14.lt (old_old oW.size))
 replace h1 := h1.step0 o19
 replace f17 := f17.step0 o19
 replace a14 := a14.step0 o19
 replace oW := oW.tail0 o19
 have a22 := Ow.of_map2 a14 l_b11
 have q_oW_r : Fr (some b11) none W.heap.size := Fr.new g_oW_b11
 replace h1 := h1.less (Y := (Orq (some b11) No)) (xx_br xx_id)
 replace f17 := f17.less (Y := (Orq (some b11) No)) (xx_br xx_id)
 replace f21 := f21.less (Y := (Orq (some b11) (Old W.heap.size))) (xx_br xx_id)
 refine wO (d_append Try.underlying22 Try.underlying22 s_ti5 rfl rfl rfl a22 (SrcV.of_seq f21 (fun _ => rfl)) (by have := encR_len (la.take 24); rw [List.length_replicate]; omega) (by have := encR_len (la.take 24); rw [List.length_replicate]; omega) rfl) ?_
 rintro u23 w24 ⟨bo25, a26, o27, q28⟩
 replace a26 : Ow 5 1 bo25 u23 ((List.replicate 4 0) ++ (encR (la.take 24))).length (((List.replicate 4 0) ++ (encR (la.take 24))).map eB) w24 := by rw [List.length_append, List.map_append]; exact a26
 replace h1 := h1.gr o27 (fun k e => (.inl e)) (xx_re (Fr.of_or q28) xx_id)
 replace f17 := f17.gr o27 (fun k e => (.inl e)) (xx_re (Fr.of_or q28) xx_id)
 replace f21 := f21.gr o27 (fun k e => (.inl e)) (xx_re (Fr.of_or q28) xx_id)
 have tq := oW.size
 replace oW := oW.tailr o27 q_oW_r (fun _ e => by cases e)
 replace q_oW_r := qtr (Fr.of_or q28) q_oW_r tq
 clear tq
 refine wI (d_assign rfl) ?_
 refine wF ([u1, undef, (Value.slice none 0 0), u23, u1, (eN la.length), (Value.bool (!decide (la.length = 48))), (sli b11 0 4 4), (sli b11 0 4 4), u1, u16, u20, u23] ++ (us 5)) ?_
 refine wpL.done ?_
 refine then_n ?_
 refine wpIn_seq ?_
 refine plain ?_
 refine wI (d_move rfl) ?_
 refine wI (d_move rfl) ?_
 refine wO (d_sliceS (xs := la) (ys := (la.drop 24)) (l := 24) (h := la.length) Try.underlying22 s_ti5 rfl h1 (Bd.some (l := 24) (k := .i64) rfl) Bd.none (by omega) (by omega) (by simp)) ?_
 rintro u29 _ ⟨f30, rfl⟩
 refine wF [u1, undef, (Value.slice none 0 0), u23, u1, (eN la.length), (Value.bool (!decide (la.length = 48))), (sli b11 0 4 4), (sli b11 0 4 4), u1, u16, u20, u23, u23, u1, u29, undef, undef] ?_
 refine wO (d_call (xl := [.tmp 15]) (al := [u29]) Try.func42 (by kernel_rfl) rfl rfl rfl (ref4Enc_ok (la.drop 24) u29 _ (Ps.no f30) (by first | omega | (simp; done) | (simp; omega)))) ?_
 rintro u33 w31 f34
 replace f34 := f34.ps
 obtain ⟨f34, o32⟩ := f34
 replace f34 := f34.less (Y := (Orq bo25 (Old W.heap.size))) (orq_old a26.lts (old_old oW.size))
 replace h1 := h1.step0 o32
 replace f17 := f17.step0 o32
 replace f21 := f21.step0 o32
 replace f30 := f30.step0 o32
 replace a26 := a26.step0 o32
 replace oW := oW.tail0 o32
 refine wO (d_append Try.underlying22 Try.underlying22 s_ti5 rfl rfl rfl a26 (SrcV.of_seq f34 (fun _ => rfl)) (by have := encR_len (la.take 24); have := encR_len (la.drop 24); simp only [List.length_append, List.length_replicate]; omega) (by have := encR_len (la.take 24); have := encR_len (la.drop 24); simp only [List.length_append, List.length_replicate]; omega) rfl) ?_
 rintro u35 w36 ⟨bo37, a38, o39, q40⟩
 replace a38 : Ow 5 1 bo37 u35 (((List.replicate 4 0) ++ (encR (la.take 24))) ++ (encR (la.drop 24))).length ((((List.replicate 4 0) ++ (encR (la.take 24))) ++ (encR (la.drop 24))).map eB) w36 := by rw [List.length_append, List.map_append]; exact a38
 replace h1 := h1.gr o39 (fun k e => (.inl e)) (xx_re (Fr.of_or q40) xx_id)
 replace f17 := f17.gr o39 (fun k e => (.inl e)) (xx_re (Fr.of_or q40) xx_id)
 replace f21 := f21.gr o39 (fun k e => (.inl e)) (xx_re (Fr.of_or q40) xx_id)
 replace f30 := f30.gr o39 (fun k e => (.inl e)) (xx_re (Fr.of_or q40) xx_id)
 replace f34 := f34.gr o39 (fun k e => (.inl e)) (xx_re (Fr.of_or q40) xx_id)
 have tq := oW.size
 replace oW := oW.tailr o39 q_oW_r (fun _ e => by cases e)
 replace q_oW_r := qtr (Fr.of_or q40) q_oW_r tq
 clear tq
 refine wI (d_assign rfl) ?_
 refine wF [u1, undef, u35, u23, u1, (eN la.length), (Value.bool (!decide (la.length = 48))), (sli b11 0 4 4), (sli b11 0 4 4), u1, u16, u20, u23, u23, u1, u29, u33, u35] ?_
 refine wpL.done ?_
 refine then_n ?_
 refine wpIn_ret ?_
 refine leave0 (v := u35) (res1 Try.results18 rfl) ?_
 exact ROw.mk_ a38 (by rw [pgE_yes c0, pgH0, pgH1 c0]) q_oW_r oW

set_option maxRecDepth 20000 in
set_option maxHeartbeats 1000000 in
theorem ref8Decode_ok (la : List UInt8) (u1 : Value) (W : World) (h1 : Ps No (Seq kB la u1) W) (g1 : la.length ≤ 1048576) :
    CW Try.prog 22 #[u1] W (Rt (RPg (pgD la).1 (pgD la).2 W)) := by
 have oW : Only No W W := Only.refl _ _
 refine enter (al := [u1]) (k := 44) (l := ([u1] ++ (us 44))) Try.func22 rfl Try.ntmps22 rfl rfl ?_
 refine wpIn_seq ?_
 refine plain ?_
 refine wO (d_alloc s_ti32 rfl) ?_
 rintro _ w11 ⟨st, rfl, g12, a13, o14⟩
 have g_oW_st : W.heap.size ≤ st := Nat.le_trans oW.size g12
 replace h1 := h1.new o14 g12
 replace oW := oW.tail0 o14
 refine wF ([u1, undef, (ptr st 0)] ++ (us 42)) ?_
 refine wpL.done ?_
 refine then_n ?_
 refine wpIn_seq ?_
 refine wpIn_seq ?_
 refine plain ?_
 refine wI (d_move rfl) ?_
 refine wI (d_lenS rfl Try.underlying22 rfl h1) ?_
 refine wI (n_neq (a := la.length) (b := 60) rfl rfl rfl) ?_
 refine wF ([u1, undef, (ptr st 0)] ++ (us 6 ++ [u1, (eN la.length), (Value.bool (!decide (la.length = 60)))] ++ (us 33))) ?_
 refine wpL.done ?_
 refine then_n ?_
 refine cond_un rfl (fun c0 => ?_) (fun c0 => ?_)
 ·
  refine wpIn_seq ?_
  refine plain ?_
  refine wI (d_buildS (pl := [(0, 1), (1, 1)]) (zs := [(eN 0), (Value.slice none 0 0)]) (cs := [(eN 1), (Value.slice none 0 0)]) Try.underlying32 s_ti32 ⟨_, _, _, _, rfl, s_ti3, ⟨_, _, _, _, rfl, s_ti22, rfl⟩⟩ rfl (parts_cons (vs := [(eN 1)]) (cells_of (v := (eN 1)) rfl rfl) parts_nil) rfl) ?_
  refine wO (d_storeAg (cs' := [(eN 1), (Value.slice none 0 0)]) s_ti32 rfl rfl rfl (oc_cons rfl (oc_cons rfl oc_nil)) a13 (by decide) rfl) ?_
  rintro _ w15 ⟨a16, o17⟩
  replace h1 := h1.stepb o17 in1
  replace oW := oW.tailb o17 g_oW_st
  refine wF ([u1, undef, (ptr st 0)] ++ (us 6 ++ [u1, (eN la.length), (Value.bool (!decide (la.length = 60))), (Value.agg #[(eN 1), (Value.slice none 0 0)])] ++ (us 32))) ?_
  refine wpL.done ?_
  refine then_n ?_
  refine wpIn_ret ?_
  refine then_r ?_
  refine leave0 (v := (Value.agg #[(eN 1), (Value.slice none 0 0)])) (resC Try.results22 ⟨_, Try.underlying32, rfl⟩ s_ti32 rfl a16 rfl) ?_
  exact RPg.of (pgD_size c0) seq_nil oW
 refine wpIn_skip ?_
 refine then_n ?_
 refine wpIn_seq ?_
 refine wpIn_seq ?_
 refine plain ?_
 refine wI (d_move rfl) ?_
 refine wO (d_sliceS (xs := la) (ys := (la.take 4)) (l := 0) (h := 4) Try.underlying22 s_ti5 rfl h1 Bd.none (Bd.some (l := 4) (k := .i64) rfl) (by omega) (by omega) (by simp)) ?_
 rintro u18 _ ⟨f19, rfl⟩
 refine wO (d_call (xl := [.tmp 14]) (al := [u18]) Try.func24 (by kernel_rfl) rfl rfl rfl (ref6Ones_ok (la.take 4) u18 _ (Ps.no f19) (by first | omega | (simp; done) | (simp; omega)))) ?_
 rintro _ w20 ⟨rfl, o21⟩
 replace h1 := h1.step0 o21
 replace f19 := f19.step0 o21
 replace a13 := a13.step0 o21
 replace oW := oW.tail0 o21
 refine wF ([u1, undef, (ptr st 0)] ++ (us 6 ++ [u1, (eN la.length), (Value.bool (!decide (la.length = 60))), undef, u1, u18, (eN (onesN (la.take 4)))] ++ (us 29))) ?_
 refine wI (n_gtr (a := (onesN (la.take 4))) (b := 16) rfl rfl rfl) ?_
 refine wF ([u1, undef, (ptr st 0)] ++ (us 6 ++ [u1, (eN la.length), (Value.bool (!decide (la.length = 60))), undef, u1, u18, (eN (onesN (la.take 4))), (Value.bool (decide (16 < (onesN (la.take 4)))))] ++ (us 28))) ?_
 refine wpL.done ?_
 refine then_n ?_
 refine cond_if rfl (fun c1 => ?_) (fun c1 => ?_)
 ·
  refine wpIn_seq ?_
  refine plain ?_
  refine wI (d_buildS (pl := [(0, 1), (1, 1)]) (zs := [(eN 0), (Value.slice none 0 0)]) (cs := [(eN 0), (Value.slice none 0 0)]) Try.underlying32 s_ti32 ⟨_, _, _, _, rfl, s_ti3, ⟨_, _, _, _, rfl, s_ti22, rfl⟩⟩ rfl (parts_cons (vs := [(eN 0)]) (cells_of (v := (eN 0)) rfl rfl) parts_nil) rfl) ?_
  refine wO (d_storeAg (cs' := [(eN 0), (Value.slice none 0 0)]) s_ti32 rfl rfl rfl (oc_cons rfl (oc_cons rfl oc_nil)) a13 (by decide) rfl) ?_
  rintro _ w22 ⟨a23, o24⟩
  replace h1 := h1.stepb o24 in1
  replace f19 := f19.stepb o24 in1
  replace oW := oW.tailb o24 g_oW_st
  refine wF ([u1, undef, (ptr st 0)] ++ (us 6 ++ [u1, (eN la.length), (Value.bool (!decide (la.length = 60))), undef, u1, u18, (eN (onesN (la.take 4))), (Value.bool (decide (16 < (onesN (la.take 4))))), (Value.agg #[(eN 0), (Value.slice none 0 0)])] ++ (us 27))) ?_
  refine wpL.done ?_
  refine then_n ?_
  refine forget (fun zf25 => ([(zf25 0), (zf25 1), (ptr st 0)] ++ (zs zf25 3 42))) (by kernel_rfl) (fun zf25 => ?_)
  refine wpIn_ret ?_
  refine then_r ?_
  refine leave0 (v := (Value.agg #[(eN 0), (Value.slice none 0 0)])) (resC Try.results22 ⟨_, Try.underlying32, rfl⟩ s_ti32 rfl a23 rfl) ?_
  exact RPg.of (pgD_blank c0 c1) seq_nil oW
 refine wpIn_skip ?_
 refine then_n ?_
 refine wpIn_seq ?_
 refine plain ?_
 refine wI (d_move rfl) ?_
 refine wO (d_sliceS (xs := la) (ys := (pgW la 0)) (l := 4) (h := 32) Try.underlying22 s_ti5 rfl h1 (Bd.some (l := 4) (k := .i64) rfl) (Bd.some (l := 32) (k := .i64) rfl) (by omega) (by omega) (by rw [pgW0, List.drop_take])) ?_
 rintro u26 _ ⟨f27, rfl⟩
 refine wO (d_call (xl := [.tmp 20]) (al := [u26]) Try.func46 (by kernel_rfl) rfl rfl rfl (ref4Decode_ok (pgW la 0) u26 _ (Ps.no f27) (by have := pgW_len la 0; first | omega | (simp; done) | (simp; omega)))) ?_
 rintro _ w28 ⟨u30, rfl, f31, o29⟩
 replace f31 := f31.less (Y := (Or1 st (Old W.heap.size))) (or1_old a13.lt (old_old oW.size))
 replace h1 := h1.step0 o29
 replace f19 := f19.step0 o29
 replace f27 := f27.step0 o29
 replace a13 := a13.step0 o29
 replace oW := oW.tail0 o29
 refine wF ([u1, undef, (ptr st 0)] ++ (us 6 ++ [u1, (eN la.length), (Value.bool (!decide (la.length = 60))), undef, u1, u18, (eN (onesN (la.take 4))), (Value.bool (decide (16 < (onesN (la.take 4))))), undef, undef, u1, u26, (Value.tuple #[u30, (eN (decN (pgW la 0))), (Value.bool (decB (pgW la 0)))])] ++ (us 23))) ?_
 refine wI (d_move rfl) ?_
 refine wI (d_extract (v := u30) rfl rfl) ?_
 refine wI (d_extract (v := (eN (decN (pgW la 0)))) rfl rfl) ?_
 refine wF ([u1, undef, (ptr st 0)] ++ (us 6 ++ [u1, (eN la.length), (Value.bool (!decide (la.length = 60))), undef, u1, u18, (eN (onesN (la.take 4))), (Value.bool (decide (16 < (onesN (la.take 4))))), undef, (Value.tuple #[u30, (eN (decN (pgW la 0))), (Value.bool (decB (pgW la 0)))]), u1, u26, (Value.tuple #[u30, (eN (decN (pgW la 0))), (Value.bool (decB (pgW la 0)))]), u30, (eN (decN (pgW la 0)))] ++ (us 21))) ?_
 refine wI (d_extract (v := (Value.bool (decB (pgW la 0)))) rfl rfl) ?_
 refine wI (d_assign rfl) ?_
 refine wI (d_assign rfl) ?_
 refine wF ([u1, undef, (ptr st 0), u30, (eN (decN (pgW la 0))), undef, undef, undef, undef, u1, (eN la.length), (Value.bool (!decide (la.length = 60))), undef, u1, u18, (eN (onesN (la.take 4))), (Value.bool (decide (16 < (onesN (la.take 4))))), undef, (Value.tuple #[u30, (eN (decN (pgW la 0))), (Value.bool (decB (pgW la 0)))]), u1, u26, (Value.tuple #[u30, (eN (decN (pgW la 0))), (Value.bool (decB (pgW la 0)))]), u30, (eN (decN (pgW la 0))), (Value.bool (decB (pgW la 0)))] ++ (us 20)) ?_
 refine wI (d_assign rfl) ?_
 refine wF ([u1, undef, (ptr st 0), u30, (eN (decN (pgW la 0))), (Value.bool (decB (pgW la 0))), undef, undef, undef, u1, (eN la.length), (Value.bool (!decide (la.length = 60))), undef, u1, u18, (eN (onesN (la.take 4))), (Value.bool (decide (16 < (onesN (la.take 4))))), undef, (Value.tuple #[u30, (eN (decN (pgW la 0))), (Value.bool (decB (pgW la 0)))]), u1, u26, (Value.tuple #[u30, (eN (decN (pgW la 0))), (Value.bool (decB (pgW la 0)))]), u30, (eN (decN (pgW la 0))), (Value.bool (decB (pgW la 0)))] ++ (us 20)) ?_
 refine wpL.done ?_
 refine then_n ?_
 refine forget (fun zf36 => ([u1, (zf36 1), (ptr st 0), u30, (zf36 4), (Value.bool (decB (pgW la 0)))] ++ (zs zf36 6 39))) (by kernel_rfl) (fun zf36 => ?_)
 refine wpIn_seq ?_
 refine plain ?_
 refine wI (d_move rfl) ?_
 refine wO (d_sliceS (xs := la) (ys := (pgW la 1)) (l := 32) (h := la.length) Try.underlying22 s_ti5 rfl h1 (Bd.some (l := 32) (k := .i64) rfl) Bd.none (by omega) (by omega) (by rw [pgW1 c0]; simp)) ?_
 rintro u37 _ ⟨f38, rfl⟩
 refine wO (d_call (xl := [.tmp 27]) (al := [u37]) Try.func46 (by kernel_rfl) rfl rfl rfl (ref4Decode_ok (pgW la 1) u37 _ (Ps.no f38) (by have := pgW_len la 1; first | omega | (simp; done) | (simp; omega)))) ?_
 rintro _ w39 ⟨u41, rfl, f42, o40⟩
 replace f42 := f42.less (Y := (Or1 st (Old W.heap.size))) (or1_old a13.lt (old_old oW.size))
 replace h1 := h1.step0 o40
 replace f19 := f19.step0 o40
 replace f27 := f27.step0 o40
 replace f31 := f31.step0 o40
 replace f38 := f38.step0 o40
 replace a13 := a13.step0 o40
 replace oW := oW.tail0 o40
 refine wF ([u1, (zf36 1), (ptr st 0), u30, (zf36 4), (Value.bool (decB (pgW la 0)))] ++ (zs zf36 6 20 ++ [u1, u37, (Value.tuple #[u41, (eN (decN (pgW la 1))), (Value.bool (decB (pgW la 1)))])] ++ (zs zf36 29 16))) ?_
 refine wI (d_move rfl) ?_
 refine wI (d_extract (v := u41) rfl rfl) ?_
 refine wI (d_extract (v := (eN (decN (pgW la 1)))) rfl rfl) ?_
 refine wF ([u1, (zf36 1), (ptr st 0), u30, (zf36 4), (Value.bool (decB (pgW la 0)))] ++ (zs zf36 6 19 ++ [(Value.tuple #[u41, (eN (decN (pgW la 1))), (Value.bool (decB (pgW la 1)))]), u1, u37, (Value.tuple #[u41, (eN (decN (pgW la 1))), (Value.bool (decB (pgW la 1)))]), u41, (eN (decN (pgW la 1)))] ++ (zs zf36 31 14))) ?_
 refine wI (d_extract (v := (Value.bool (decB (pgW la 1)))) rfl rfl) ?_
 refine wI (d_assign rfl) ?_
 refine wI (d_assign rfl) ?_
 refine wF ([u1, (zf36 1), (ptr st 0), u30, (zf36 4), (Value.bool (decB (pgW la 0))), u41, (eN (decN (pgW la 1)))] ++ (zs zf36 8 17 ++ [(Value.tuple #[u41, (eN (decN (pgW la 1))), (Value.bool (decB (pgW la 1)))]), u1, u37, (Value.tuple #[u41, (eN (decN (pgW la 1))), (Value.bool (decB (pgW la 1)))]), u41, (eN (decN (pgW la 1))), (Value.bool (decB (pgW la 1)))] ++ (zs zf36 32 13))) ?_
 refine wI (d_assign rfl) ?_
 refine wF ([u1, (zf36 1), (ptr st 0), u30, (zf36 4), (Value.bool (decB (pgW la 0))), u41, (eN (decN (pgW la 1))), (Value.bool (decB (pgW la 1)))] ++ (zs zf36 9 16 ++ [(Value.tuple #[u41, (eN (decN (pgW la 1))), (Value.bool (decB (pgW la 1)))]), u1, u37, (Value.tuple #[u41, (eN (decN (pgW la 1))), (Value.bool (decB (pgW la 1)))]), u41, (eN (decN (pgW la 1))), (Value.bool (decB (pgW la 1)))] ++ (zs zf36 32 13))) ?_
 refine wpL.done ?_
 refine then_n ?_
 refine forget (fun zf47 => ([(zf47 0), (zf47 1), (ptr st 0), u30, (zf47 4), (Value.bool (decB (pgW la 0))), u41, (zf47 7), (Value.bool (decB (pgW la 1)))] ++ (zs zf47 9 36))) (by kernel_rfl) (fun zf47 => ?_)
 refine wpIn_seq ?_
 refine wpIn_seq ?_
 by_cases k0 : decB (pgW la 0) = false
 ·
  refine wp_eq (l' := ([(zf47 0), (zf47 1), (ptr st 0), u30, (zf47 4), (Value.bool false), u41, (zf47 7), (Value.bool (decB (pgW la 1)))] ++ (zs zf47 9 36))) (show (([(zf47 0), (zf47 1), (ptr st 0), u30, (zf47 4), (Value.bool (decB (pgW la 0))), u41, (zf47 7), (Value.bool (decB (pgW la 1)))] ++ (zs zf47 9 36)) : List Value) = ([(zf47 0), (zf47 1), (ptr st 0), u30, (zf47 4), (Value.bool false), u41, (zf47 7), (Value.bool (decB (pgW la 1)))] ++ (zs zf47 9 36)) from reslot ([(zf47 0), (zf47 1), (ptr st 0), u30, (zf47 4), (Value.bool (decB (pgW la 0))), u41, (zf47 7), (Value.bool (decB (pgW la 1)))] ++ (zs zf47 9 36)) 5 (congrArg Value.bool (by exact k0))) ?_
  refine plain ?_
  refine wI (d_move rfl) ?_
  refine wI (d_not rfl rfl) ?_
  refine wI (d_move rfl) ?_
  refine wF ([(zf47 0), (zf47 1), (ptr st 0), u30, (zf47 4), (Value.bool false), u41, (zf47 7), (Value.bool (decB (pgW la 1)))] ++ (zs zf47 9 23 ++ [(Value.bool false), (Value.bool true), (Value.bool true)] ++ (zs zf47 35 10))) ?_
  refine wpL.off rfl rfl rfl (nb rfl) rfl ?_
  refine wpL.off rfl rfl rfl (nb rfl) rfl ?_
  refine wI (d_pick (b := true) (v := (Value.bool true)) rfl rfl) ?_
  refine wF ([(zf47 0), (zf47 1), (ptr st 0), u30, (zf47 4), (Value.bool false), u41, (zf47 7), (Value.bool (decB (pgW la 1)))] ++ (zs zf47 9 23 ++ [(Value.bool false), (Value.bool true), (Value.bool true), undef, undef, (Value.bool true)] ++ (zs zf47 38 7))) ?_
  refine wpL.done ?_
  refine then_n ?_
  refine cond_t rfl ?_
  refine wpIn_seq ?_
  refine plain ?_
  refine wI (d_buildS (pl := [(0, 1), (1, 1)]) (zs := [(eN 0), (Value.slice none 0 0)]) (cs := [(eN 1), (Value.slice none 0 0)]) Try.underlying32 s_ti32 ⟨_, _, _, _, rfl, s_ti3, ⟨_, _, _, _, rfl, s_ti22, rfl⟩⟩ rfl (parts_cons (vs := [(eN 1)]) (cells_of (v := (eN 1)) rfl rfl) parts_nil) rfl) ?_
  refine wO (d_storeAg (cs' := [(eN 1), (Value.slice none 0 0)]) s_ti32 rfl rfl rfl (oc_cons rfl (oc_cons rfl oc_nil)) a13 (by decide) rfl) ?_
  rintro _ w48 ⟨a49, o50⟩
  replace h1 := h1.stepb o50 in1
  replace f19 := f19.stepb o50 in1
  replace f27 := f27.stepb o50 in1
  replace f31 := f31.stepb o50 in1
  replace f38 := f38.stepb o50 in1
  replace f42 := f42.stepb o50 in1
  replace oW := oW.tailb o50 g_oW_st
  refine wF ([(zf47 0), (zf47 1), (ptr st 0), u30, (zf47 4), (Value.bool false), u41, (zf47 7), (Value.bool (decB (pgW la 1)))] ++ (zs zf47 9 23 ++ [(Value.bool false), (Value.bool true), (Value.bool true), undef, undef, (Value.bool true), (Value.agg #[(eN 1), (Value.slice none 0 0)])] ++ (zs zf47 39 6))) ?_
  refine wpL.done ?_
  refine then_n ?_
  refine forget (fun zf51 => ([(zf51 0), (zf51 1), (ptr st 0)] ++ (zs zf51 3 42))) (by kernel_rfl) (fun zf51 => ?_)
  refine wpIn_ret ?_
  refine then_r ?_
  refine leave0 (v := (Value.agg #[(eN 1), (Value.slice none 0 0)])) (resC Try.results22 ⟨_, Try.underlying32, rfl⟩ s_ti32 rfl a49 rfl) ?_
  exact RPg.of (pgD_bad c0 c1 (k := 0) (by decide) k0) seq_nil oW
 refine wp_eq (l' := ([(zf47 0), (zf47 1), (ptr st 0), u30, (zf47 4), (Value.bool true), u41, (zf47 7), (Value.bool (decB (pgW la 1)))] ++ (zs zf47 9 36))) (show (([(zf47 0), (zf47 1), (ptr st 0), u30, (zf47 4), (Value.bool (decB (pgW la 0))), u41, (zf47 7), (Value.bool (decB (pgW la 1)))] ++ (zs zf47 9 36)) : List Value) = ([(zf47 0), (zf47 1), (ptr st 0), u30, (zf47 4), (Value.bool true), u41, (zf47 7), (Value.bool (decB (pgW la 1)))] ++ (zs zf47 9 36)) from reslot ([(zf47 0), (zf47 1), (ptr st 0), u30, (zf47 4), (Value.bool (decB (pgW la 0))), u41, (zf47 7), (Value.bool (decB (pgW la 1)))] ++ (zs zf47 9 36)) 5 (congrArg Value.bool (by first | rfl | exact eq_true_of_ne_false k0))) ?_
 by_cases k1 : decB (pgW la 1) = true
 ·
  refine wp_eq (l' := ([(zf47 0), (zf47 1), (ptr st 0), u30, (zf47 4), (Value.bool true), u41, (zf47 7), (Value.bool (decB (pgW la 1)))] ++ (zs zf47 9 36))) (show (([(zf47 0), (zf47 1), (ptr st 0), u30, (zf47 4), (Value.bool true), u41, (zf47 7), (Value.bool (decB (pgW la 1)))] ++ (zs zf47 9 36)) : List Value) = ([(zf47 0), (zf47 1), (ptr st 0), u30, (zf47 4), (Value.bool true), u41, (zf47 7), (Value.bool (decB (pgW la 1)))] ++ (zs zf47 9 36)) from reslot ([(zf47 0), (zf47 1), (ptr st 0), u30, (zf47 4), (Value.bool true), u41, (zf47 7), (Value.bool (decB (pgW la 1)))] ++ (zs zf47 9 36)) 5 (congrArg Value.bool (by first | rfl | exact eq_true_of_ne_false k0))) ?_
  refine wp_eq (l' := ([(zf47 0), (zf47 1), (ptr st 0), u30, (zf47 4), (Value.bool true), u41, (zf47 7), (Value.bool true)] ++ (zs zf47 9 36))) (show (([(zf47 0), (zf47 1), (ptr st 0), u30, (zf47 4), (Value.bool true), u41, (zf47 7), (Value.bool (decB (pgW la 1)))] ++ (zs zf47 9 36)) : List Value) = ([(zf47 0), (zf47 1), (ptr st 0), u30, (zf47 4), (Value.bool true), u41, (zf47 7), (Value.bool true)] ++ (zs zf47 9 36)) from reslot ([(zf47 0), (zf47 1), (ptr st 0), u30, (zf47 4), (Value.bool true), u41, (zf47 7), (Value.bool (decB (pgW la 1)))] ++ (zs zf47 9 36)) 8 (congrArg Value.bool (by exact k1))) ?_
  refine plain ?_
  refine wI (d_move rfl) ?_
  refine wI (d_not rfl rfl) ?_
  refine wI (d_move rfl) ?_
  refine wF ([(zf47 0), (zf47 1), (ptr st 0), u30, (zf47 4), (Value.bool true), u41, (zf47 7), (Value.bool true)] ++ (zs zf47 9 23 ++ [(Value.bool true), (Value.bool false), (Value.bool false)] ++ (zs zf47 35 10))) ?_
  refine wpL.onis rfl rfl rfl (nb rfl) rfl (d_move rfl) ?_
  refine wpL.onis rfl rfl rfl (nb rfl) rfl (d_not rfl rfl) ?_
  refine wI (d_pick (b := false) (v := (Value.bool false)) rfl rfl) ?_
  refine wF ([(zf47 0), (zf47 1), (ptr st 0), u30, (zf47 4), (Value.bool true), u41, (zf47 7), (Value.bool true)] ++ (zs zf47 9 23 ++ [(Value.bool true), (Value.bool false), (Value.bool false), (Value.bool true), (Value.bool false), (Value.bool false)] ++ (zs zf47 38 7))) ?_
  refine wpL.done ?_
  refine then_n ?_
  refine cond_f rfl ?_
  refine wpIn_skip ?_
  refine then_n ?_
  refine forget (fun zf52 => ([(zf52 0), (zf52 1), (ptr st 0), u30, (zf52 4), (zf52 5), u41] ++ (zs zf52 7 38))) (by kernel_rfl) (fun zf52 => ?_)
  refine wpIn_seq ?_
  refine plain ?_
  refine wO (d_buildL (cs := []) Try.underlying22 s_ti5 rfl (nb rfl) parts_nil rfl) ?_
  rintro _ w54 ⟨b53, rfl, g55, a56, o57⟩
  replace a56 : Arr 5 b53 (([] : List UInt8).map eB) w54 := a56
  have l_b53 : ([] : List UInt8).length = 0 := rfl
  have n_st_b53 : st ≠ b53 := a13.ne g55
  have g_oW_b53 : W.heap.size ≤ b53 := Nat.le_trans oW.size g55
  replace h1 := h1.new o57 g55
  replace f19 := f19.new o57 g55
  replace f27 := f27.new o57 g55
  replace f31 := f31.new o57 g55
  replace f38 := f38.new o57 g55
  replace f42 := f42.new o57 g55
  replace a13 := a13.step0 o57
  replace oW := oW.tail0 o57
  refine wI (d_move rfl) ?_
  have a58 := Ow.of_map2 a56 l_b53
  have nq_r_st := nq_b (Ne.symm n_st_b53)
  have q_oW_r : Fr (some b53) none W.heap.size := Fr.new g_oW_b53
  replace h1 := h1.less (Y := (Orq (some b53) (Or1 st No))) (xx_br (xx_or1 xx_id))
  replace f19 := f19.less (Y := (Orq (some b53) (Or1 st No))) (xx_br (xx_or1 xx_id))
  replace f27 := f27.less (Y := (Orq (some b53) (Or1 st No))) (xx_br (xx_or1 xx_id))
  replace f31 := f31.less (Y := (Orq (some b53) (Or1 st (Old W.heap.size)))) (xx_br (xx_or1 xx_id))
  replace f38 := f38.less (Y := (Orq (some b53) (Or1 st No))) (xx_br (xx_or1 xx_id))
  replace f42 := f42.less (Y := (Orq (some b53) (Or1 st (Old W.heap.size)))) (xx_br (xx_or1 xx_id))
  refine wO (d_append Try.underlying22 Try.underlying22 s_ti5 rfl rfl rfl a58 (SrcV.of_seq f31 (fun _ => rfl)) (by have := decD_len (pgW la 0); simp; omega) (by have := decD_len (pgW la 0); simp; omega) rfl) ?_
  rintro u59 w60 ⟨bo61, a62, o63, q64⟩
  replace a62 : Ow 5 1 bo61 u59 (([] : List UInt8) ++ (decD (pgW la 0))).length ((([] : List UInt8) ++ (decD (pgW la 0))).map eB) w60 := by rw [List.length_append, List.map_append]; exact a62
  replace h1 := h1.gr o63 (fun k e => (.inl e)) (xx_re (Fr.of_or q64) (xx_or1 xx_id))
  replace f19 := f19.gr o63 (fun k e => (.inl e)) (xx_re (Fr.of_or q64) (xx_or1 xx_id))
  replace f27 := f27.gr o63 (fun k e => (.inl e)) (xx_re (Fr.of_or q64) (xx_or1 xx_id))
  replace f31 := f31.gr o63 (fun k e => (.inl e)) (xx_re (Fr.of_or q64) (xx_or1 xx_id))
  replace f38 := f38.gr o63 (fun k e => (.inl e)) (xx_re (Fr.of_or q64) (xx_or1 xx_id))
  replace f42 := f42.gr o63 (fun k e => (.inl e)) (xx_re (Fr.of_or q64) (xx_or1 xx_id))
  have nq2 := nqs nq_r_st (Fr.of_or q64) a13.lt
  replace a13 := a13.step o63 (fun e => nq_r_st _ e rfl)
  replace nq_r_st := nq2
  clear nq2
  have tq := oW.size
  replace oW := oW.tailr o63 q_oW_r (fun _ e => by cases e)
  replace q_oW_r := qtr (Fr.of_or q64) q_oW_r tq
  clear tq
  refine wF ([(zf52 0), (zf52 1), (ptr st 0), u30, (zf52 4), (zf52 5), u41] ++ (zs zf52 7 32 ++ [(sli b53 0 0 0), u30, u59, (zf52 42), (zf52 43), (zf52 44)])) ?_
  refine wI (d_move rfl) ?_
  refine wO (d_append Try.underlying22 Try.underlying22 s_ti5 rfl rfl rfl a62 (SrcV.of_seq f42 (fun _ => rfl)) (by have := decD_len (pgW la 0); have := decD_len (pgW la 1); simp; omega) (by have := decD_len (pgW la 0); have := decD_len (pgW la 1); simp; omega) rfl) ?_
  rintro u65 w66 ⟨bo67, a68, o69, q70⟩
  replace a68 : Ow 5 1 bo67 u65 ((([] : List UInt8) ++ (decD (pgW la 0))) ++ (decD (pgW la 1))).length (((([] : List UInt8) ++ (decD (pgW la 0))) ++ (decD (pgW la 1))).map eB) w66 := by rw [List.length_append, List.map_append]; exact a68
  replace h1 := h1.gr o69 (fun k e => (.inl e)) (xx_re (Fr.of_or q70) (xx_or1 xx_id))
  replace f19 := f19.gr o69 (fun k e => (.inl e)) (xx_re (Fr.of_or q70) (xx_or1 xx_id))
  replace f27 := f27.gr o69 (fun k e => (.inl e)) (xx_re (Fr.of_or q70) (xx_or1 xx_id))
  replace f31 := f31.gr o69 (fun k e => (.inl e)) (xx_re (Fr.of_or q70) (xx_or1 xx_id))
  replace f38 := f38.gr o69 (fun k e => (.inl e)) (xx_re (Fr.of_or q70) (xx_or1 xx_id))
  replace f42 := f42.gr o69 (fun k e => (.inl e)) (xx_re (Fr.of_or q70) (xx_or1 xx_id))
  have nq2 := nqs nq_r_st (Fr.of_or q70) a13.lt
  replace a13 := a13.step o69 (fun e => nq_r_st _ e rfl)
  replace nq_r_st := nq2
  clear nq2
  have tq := oW.size
  replace oW := oW.tailr o69 q_oW_r (fun _ e => by cases e)
  replace q_oW_r := qtr (Fr.of_or q70) q_oW_r tq
  clear tq
  refine wI (d_buildS (pl := [(0, 1), (1, 1)]) (zs := [(eN 0), (Value.slice none 0 0)]) (cs := [(eN 2), u65]) Try.underlying32 s_ti32 ⟨_, _, _, _, rfl, s_ti3, ⟨_, _, _, _, rfl, s_ti22, rfl⟩⟩ rfl (parts_cons (vs := [(eN 2)]) (cells_of (v := (eN 2)) rfl rfl) (parts_cons (vs := [u65]) (cells_of (v := u65) rfl (Ow.cells a68)) parts_nil)) rfl) ?_
  refine wF ([(zf52 0), (zf52 1), (ptr st 0), u30, (zf52 4), (zf52 5), u41] ++ (zs zf52 7 32 ++ [(sli b53 0 0 0), u30, u59, u41, u65, (Value.agg #[(eN 2), u65])])) ?_
  refine wO (d_storeAg (cs' := [(eN 2), u65]) s_ti32 rfl rfl rfl (oc_cons rfl (oc_cons (Ow.one a68) oc_nil)) a13 (by decide) rfl) ?_
  rintro _ w71 ⟨a72, o73⟩
  replace h1 := h1.stepb o73 (inq in1)
  replace f19 := f19.stepb o73 (inq in1)
  replace f27 := f27.stepb o73 (inq in1)
  replace f31 := f31.stepb o73 (inq in1)
  replace f38 := f38.stepb o73 (inq in1)
  replace f42 := f42.stepb o73 (inq in1)
  replace a68 := a68.step o73 (fun x hx e => nq_r_st x hx e)
  replace oW := oW.tailb o73 g_oW_st
  refine wF ([(zf52 0), (zf52 1), (ptr st 0), u30, (zf52 4), (zf52 5), u41] ++ (zs zf52 7 32 ++ [(sli b53 0 0 0), u30, u59, u41, u65, (Value.agg #[(eN 2), u65])])) ?_
  refine wpL.done ?_
  refine then_n ?_
  refine forget (fun zf74 => ([(zf74 0), (zf74 1), (ptr st 0)] ++ (zs zf74 3 42))) (by kernel_rfl) (fun zf74 => ?_)
  refine wpIn_ret ?_
  refine leave0 (v := (Value.agg #[(eN 2), u65])) (resC Try.results22 ⟨_, Try.underlying32, rfl⟩ s_ti32 rfl a72 rfl) ?_
  exact RPg.of (pgD_good c0 c1 (by simpa using k0) k1) (Ow.seq a68 (old_q q_oW_r)) oW
 refine wp_eq (l' := ([(zf47 0), (zf47 1), (ptr st 0), u30, (zf47 4), (Value.bool true), u41, (zf47 7), (Value.bool (decB (pgW la 1)))] ++ (zs zf47 9 36))) (show (([(zf47 0), (zf47 1), (ptr st 0), u30, (zf47 4), (Value.bool true), u41, (zf47 7), (Value.bool (decB (pgW la 1)))] ++ (zs zf47 9 36)) : List Value) = ([(zf47 0), (zf47 1), (ptr st 0), u30, (zf47 4), (Value.bool true), u41, (zf47 7), (Value.bool (decB (pgW la 1)))] ++ (zs zf47 9 36)) from reslot ([(zf47 0), (zf47 1), (ptr st 0), u30, (zf47 4), (Value.bool true), u41, (zf47 7), (Value.bool (decB (pgW la 1)))] ++ (zs zf47 9 36)) 5 (congrArg Value.bool (by first | rfl | exact eq_true_of_ne_false k0))) ?_
 refine wp_eq (l' := ([(zf47 0), (zf47 1), (ptr st 0), u30, (zf47 4), (Value.bool true), u41, (zf47 7), (Value.bool false)] ++ (zs zf47 9 36))) (show (([(zf47 0), (zf47 1), (ptr st 0), u30, (zf47 4), (Value.bool true), u41, (zf47 7), (Value.bool (decB (pgW la 1)))] ++ (zs zf47 9 36)) : List Value) = ([(zf47 0), (zf47 1), (ptr st 0), u30, (zf47 4), (Value.bool true), u41, (zf47 7), (Value.bool false)] ++ (zs zf47 9 36)) from reslot ([(zf47 0), (zf47 1), (ptr st 0), u30, (zf47 4), (Value.bool true), u41, (zf47 7), (Value.bool (decB (pgW la 1)))] ++ (zs zf47 9 36)) 8 (congrArg Value.bool (by first | rfl | exact Bool.eq_false_iff.2 k1))) ?_
 refine plain ?_
 refine wI (d_move rfl) ?_
 refine wI (d_not rfl rfl) ?_
 refine wI (d_move rfl) ?_
 refine wF ([(zf47 0), (zf47 1), (ptr st 0), u30, (zf47 4), (Value.bool true), u41, (zf47 7), (Value.bool false)] ++ (zs zf47 9 23 ++ [(Value.bool true), (Value.bool false), (Value.bool false)] ++ (zs zf47 35 10))) ?_
 refine wpL.onis rfl rfl rfl (nb rfl) rfl (d_move rfl) ?_
 refine wpL.onis rfl rfl rfl (nb rfl) rfl (d_not rfl rfl) ?_
 refine wI (d_pick (b := false) (v := (Value.bool true)) rfl rfl) ?_
 refine wF ([(zf47 0), (zf47 1), (ptr st 0), u30, (zf47 4), (Value.bool true), u41, (zf47 7), (Value.bool false)] ++ (zs zf47 9 23 ++ [(Value.bool true), (Value.bool false), (Value.bool false), (Value.bool false), (Value.bool true), (Value.bool true)] ++ (zs zf47 38 7))) ?_
 refine wpL.done ?_
 refine then_n ?_
 refine cond_t rfl ?_
 refine wpIn_seq ?_
 refine plain ?_
 refine wI (d_buildS (pl := [(0, 1), (1, 1)]) (zs := [(eN 0), (Value.slice none 0 0)]) (cs := [(eN 1), (Value.slice none 0 0)]) Try.underlying32 s_ti32 ⟨_, _, _, _, rfl, s_ti3, ⟨_, _, _, _, rfl, s_ti22, rfl⟩⟩ rfl (parts_cons (vs := [(eN 1)]) (cells_of (v := (eN 1)) rfl rfl) parts_nil) rfl) ?_
 refine wO (d_storeAg (cs' := [(eN 1), (Value.slice none 0 0)]) s_ti32 rfl rfl rfl (oc_cons rfl (oc_cons rfl oc_nil)) a13 (by decide) rfl) ?_
 rintro _ w75 ⟨a76, o77⟩
 replace h1 := h1.stepb o77 in1
 replace f19 := f19.stepb o77 in1
 replace f27 := f27.stepb o77 in1
 replace f31 := f31.stepb o77 in1
 replace f38 := f38.stepb o77 in1
 replace f42 := f42.stepb o77 in1
 replace oW := oW.tailb o77 g_oW_st
 refine wF ([(zf47 0), (zf47 1), (ptr st 0), u30, (zf47 4), (Value.bool true), u41, (zf47 7), (Value.bool false)] ++ (zs zf47 9 23 ++ [(Value.bool true), (Value.bool false), (Value.bool false), (Value.bool false), (Value.bool true), (Value.bool true), (Value.agg #[(eN 1), (Value.slice none 0 0)])] ++ (zs zf47 39 6))) ?_
 refine wpL.done ?_
 refine then_n ?_
 refine forget (fun zf78 => ([(zf78 0), (zf78 1), (ptr st 0)] ++ (zs zf78 3 42))) (by kernel_rfl) (fun zf78 => ?_)
 refine wpIn_ret ?_
 refine then_r ?_
 refine leave0 (v := (Value.agg #[(eN 1), (Value.slice none 0 0)])) (resC Try.results22 ⟨_, Try.underlying32, rfl⟩ s_ti32 rfl a76 rfl) ?_
 exact RPg.of (pgD_bad c0 c1 (k := 1) (by decide) (by simpa using k1)) seq_nil oW

end Go.Proofs.YtgalehapmdabeaaF
