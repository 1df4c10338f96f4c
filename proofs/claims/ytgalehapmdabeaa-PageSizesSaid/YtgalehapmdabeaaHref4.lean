import Derived.Test.YtgalehapmdabeaaFz
import Derived.Test.YtgalehapmdabeaaTy
import Derived.Test.YtgalehapmdabeaaHbch
set_option linter.unusedVariables false
set_option linter.unusedSimpArgs false
namespace Go.Proofs.YtgalehapmdabeaaF
open Go Go.Shelf Go.Proofs.YtgalehapmdabeaaS Ram

/-- a bit, as a byte. -/
def btB (l : List UInt8) (k : Nat) : UInt8 := shrB (l.getD (k / 8) 0) (k % 8) &&& 1
theorem btB_no {l : List UInt8} {k : Nat} : btB l k = 0 ↔ bt l k = false := shr_no _ (Nat.mod_lt _ (by decide))
set_option maxRecDepth 20000 in
set_option maxHeartbeats 1000000 in
theorem ref4Bit_ok (la : List UInt8) (k : Nat) (u1 : Value) (W : World) (h1 : Ps No (Seq kB la u1) W) (g1 : la.length ≤ 1048576) (g2 : k < 8 * la.length) :
    CW Try.prog 68 #[u1, (eN k)] W (Rt (RIs (eB (btB la k)) W)) := by
 have oW : Only No W W := Only.refl _ _
 refine enter (al := [u1, (eN k)]) (k := 13) (l := ([u1, (eN k)] ++ (us 13))) Try.func68 rfl Try.ntmps68 rfl rfl ?_
 refine wpIn_seq ?_
 refine plain ?_
 refine wI (d_assign rfl) ?_
 refine wF ([u1, (eN k), undef, undef, (eB 0)] ++ (us 10)) ?_
 refine wpL.done ?_
 refine then_n ?_
 refine wpIn_seq ?_
 refine plain ?_
 refine wI (d_move rfl) ?_
 refine wI (d_move rfl) ?_
 refine wI (n_quo (a := k) (b := 8) rfl rfl (by decide) (by omega)) ?_
 refine wF ([u1, (eN k), undef, undef, (eB 0), u1, (eN k), (eN (k / 8))] ++ (us 7)) ?_
 refine wI (d_ix (i := (k / 8)) (xs := la) Try.underlying22 s_ti5 rfl h1 (show _ = Value.int _ ((k / 8 : Nat) : Int) from rfl) (by first | omega | (simp; done) | (simp; omega))) ?_
 refine wI (d_ldx (i := (k / 8)) (xs := la) (enc := eB) (v := (la.getD (k / 8) 0)) ⟨_, Try.underlying5, rfl⟩ rfl h1 (g_at (by first | omega | (simp; done) | (simp; omega)))) ?_
 refine wI (d_move rfl) ?_
 refine wF [u1, (eN k), undef, undef, (eB 0), u1, (eN k), (eN (k / 8)), (ixp u1 (k / 8)), (eB (la.getD (k / 8) 0)), (eN k), undef, undef, undef, undef] ?_
 refine wI (n_rem (a := k) (b := 8) rfl rfl (by decide)) ?_
 refine wI (n_toU Try.underlying3 Try.underlying66 rfl (by omega)) ?_
 refine wI (b_shr (a := (k % 8)) rfl rfl (by omega)) ?_
 refine wF [u1, (eN k), undef, undef, (eB 0), u1, (eN k), (eN (k / 8)), (ixp u1 (k / 8)), (eB (la.getD (k / 8) 0)), (eN k), (eN (k % 8)), (Value.int .u64 ((k % 8 : Nat) : Int)), (eB (shrB (la.getD (k / 8) 0) (k % 8))), undef] ?_
 refine wI (b_and (c := (shrB (la.getD (k / 8) 0) (k % 8))) (e := 1) rfl rfl) ?_
 refine wI (d_assign rfl) ?_
 refine wF [u1, (eN k), undef, undef, (eB ((shrB (la.getD (k / 8) 0) (k % 8)) &&& 1)), u1, (eN k), (eN (k / 8)), (ixp u1 (k / 8)), (eB (la.getD (k / 8) 0)), (eN k), (eN (k % 8)), (Value.int .u64 ((k % 8 : Nat) : Int)), (eB (shrB (la.getD (k / 8) 0) (k % 8))), (eB ((shrB (la.getD (k / 8) 0) (k % 8)) &&& 1))] ?_
 refine wpL.done ?_
 refine then_n ?_
 refine wpIn_ret ?_
 refine leave0 (v := (eB ((shrB (la.getD (k / 8) 0) (k % 8)) &&& 1))) (res1 Try.results68 rfl) ?_
 exact ⟨rfl, oW⟩

set_option maxRecDepth 20000 in
set_option maxHeartbeats 2000000 in
theorem ref4Enc_ok (la : List UInt8) (u1 : Value) (W : World) (h1 : Ps No (Seq kB la u1) W) (g1 : la.length ≤ 1048576) :
    CW Try.prog 42 #[u1] W (Rt (ROw 5 eB (encR la) W)) := by
 have oW : Only No W W := Only.refl _ _
 refine enter (al := [u1]) (k := 59) (l := ([u1] ++ (us 59))) Try.func42 rfl Try.ntmps42 rfl rfl ?_
 refine wpIn_seq ?_
 refine plain ?_
 refine wI (d_assign rfl) ?_
 refine wF ([u1, undef, (Value.slice none 0 0)] ++ (us 57)) ?_
 refine wpL.done ?_
 refine then_n ?_
 refine wpIn_seq ?_
 refine wpIn_seq ?_
 refine plain ?_
 refine wI (d_move rfl) ?_
 refine wI (d_lenS rfl Try.underlying22 rfl h1) ?_
 refine wI (n_neq (a := la.length) (b := 24) rfl rfl rfl) ?_
 refine wF ([u1, undef, (Value.slice none 0 0)] ++ (us 6 ++ [u1, (eN la.length), (Value.bool (!decide (la.length = 24)))] ++ (us 48))) ?_
 refine wpL.done ?_
 refine then_n ?_
 refine cond_un rfl (fun c0 => ?_) (fun c0 => ?_)
 ·
  refine wpIn_seq ?_
  refine plain ?_
  refine wI (d_assign rfl) ?_
  refine wF ([u1, undef, (Value.slice none 0 0)] ++ (us 6 ++ [u1, (eN la.length), (Value.bool (!decide (la.length = 24)))] ++ (us 48))) ?_
  refine wpL.done ?_
  refine then_n ?_
  refine wpIn_ret ?_
  refine then_r ?_
  refine leave0 (v := (Value.slice none 0 0)) (res1 Try.results42 rfl) ?_
  exact ROw.nil ((encR_no c0).symm) oW
 refine wpIn_skip ?_
 refine then_n ?_
 refine wpIn_seq ?_
 refine plain ?_
 refine wO (d_make1 (n := 4) Try.underlying22 s_ti5 rfl rfl (by omega) (by omega) rfl) ?_
 rintro _ w12 ⟨b11, rfl, g13, a14, o15⟩
 replace a14 : Arr 5 b11 ((List.replicate 4 0).map eB) w12 := by rw [List.map_replicate]; exact a14
 have l_b11 : (List.replicate 4 0 : List UInt8).length = 4 := by simp
 have g_oW_b11 : W.heap.size ≤ b11 := Nat.le_trans oW.size g13
 replace h1 := h1.new o15 g13
 replace oW := oW.tail0 o15
 refine wI (d_move rfl) ?_
 have a16 := Ow.of_map2 a14 l_b11
 have q_oW_out : Fr (some b11) none W.heap.size := Fr.new g_oW_b11
 replace h1 := h1.less (Y := (Orq (some b11) No)) (xx_br xx_id)
 refine wO (d_append Try.underlying22 Try.underlying22 s_ti5 rfl rfl rfl a16 (SrcV.of_seq h1 (fun _ => rfl)) (by simp; omega) (by simp; omega) rfl) ?_
 rintro u17 w18 ⟨bo19, a20, o21, q22⟩
 replace a20 : Ow 5 1 bo19 u17 ((List.replicate 4 0) ++ la).length (((List.replicate 4 0) ++ la).map eB) w18 := by rw [List.length_append, List.map_append]; exact a20
 replace h1 := h1.gr o21 (fun k e => (.inl e)) (xx_re (Fr.of_or q22) xx_id)
 have tq := oW.size
 replace oW := oW.tailr o21 q_oW_out (fun _ e => by cases e)
 replace q_oW_out := qtr (Fr.of_or q22) q_oW_out tq
 clear tq
 refine wF ([u1, undef, (Value.slice none 0 0)] ++ (us 6 ++ [u1, (eN la.length), (Value.bool (!decide (la.length = 24))), (sli b11 0 4 4), u1, u17] ++ (us 45))) ?_
 refine wI (d_assign rfl) ?_
 refine wF ([u1, undef, (Value.slice none 0 0), u17] ++ (us 5 ++ [u1, (eN la.length), (Value.bool (!decide (la.length = 24))), (sli b11 0 4 4), u1, u17] ++ (us 45))) ?_
 refine wpL.done ?_
 replace a20 : Ow 5 1 bo19 u17 (pad4 la).length ((pad4 la).map eB) w18 := a20
 refine then_n ?_
 refine forget (fun zf23 => ([(zf23 0), (zf23 1), (zf23 2), u17, (zf23 4), (zf23 5), undef, undef] ++ (zs zf23 8 29 ++ (us 18 ++ (zs zf23 55 5))))) (by kernel_rfl) (fun zf23 => ?_)
 refine wpIn_seq ?_
 refine plain ?_
 refine wO (d_buildL (cs := []) Try.underlying22 s_ti5 rfl (nb rfl) parts_nil rfl) ?_
 rintro _ w25 ⟨b24, rfl, g26, a27, o28⟩
 replace a27 : Arr 5 b24 (([] : List UInt8).map eB) w25 := a27
 have l_b24 : ([] : List UInt8).length = 0 := rfl
 have nq_out_b24 : ∀ x, bo19 = some x → ¬ x = b24 := fun x hx e => by have := a20.lts x hx; omega
 have g_oW_b24 : W.heap.size ≤ b24 := Nat.le_trans oW.size g26
 replace h1 := h1.new o28 g26
 replace a20 := a20.step0 o28
 replace oW := oW.tail0 o28
 refine wI (d_move rfl) ?_
 have a29 := Ow.of_map2 a27 l_b24
 have nqq_out_rest := nqq_b1 nq_out_b24
 have q_oW_rest : Fr (some b24) none W.heap.size := Fr.new g_oW_b24
 replace h1 := h1.less (Y := (Orq (some b24) (Orq bo19 No))) (xx_br (xx_orq xx_id))
 refine wO (d_append Try.underlying22 Try.underlying22 s_ti5 rfl rfl rfl a29 (SrcV.of_seq (a20.seq (X := No) (fun _ _ h => h)) (fun _ => rfl)) (by have := pad4_length c0; simp only [List.length_nil]; omega) (by have := pad4_length c0; simp only [List.length_nil]; omega) rfl) ?_
 rintro u30 w31 ⟨bo32, a33, o34, q35⟩
 replace a33 : Ow 5 1 bo32 u30 (pad4 la).length ((pad4 la).map eB) w31 := by simpa using a33
 replace h1 := h1.gr o34 (fun k e => (.inl e)) (xx_re (Fr.of_or q35) (xx_orq xx_id))
 have lt2 := a20.lts
 replace a20 := a20.step o34 (fun x hx e => nqq_out_rest x hx e)
 replace nqq_out_rest := nqq_step nqq_out_rest (Fr.of_or q35) lt2
 clear lt2
 have tq := oW.size
 replace oW := oW.tailr o34 q_oW_rest (fun _ e => by cases e)
 replace q_oW_rest := qtr (Fr.of_or q35) q_oW_rest tq
 clear tq
 refine wF ([(zf23 0), (zf23 1), (zf23 2), u17, (zf23 4), (zf23 5), undef, undef] ++ (zs zf23 8 7 ++ [(sli b24 0 0 0), u17, u30] ++ (zs zf23 18 19 ++ (us 18 ++ (zs zf23 55 5))))) ?_
 refine wI (d_assign rfl) ?_
 refine wF ([(zf23 0), (zf23 1), (zf23 2), u17, u30, (zf23 5), undef, undef] ++ (zs zf23 8 7 ++ [(sli b24 0 0 0), u17, u30] ++ (zs zf23 18 19 ++ (us 18 ++ (zs zf23 55 5))))) ?_
 refine wpL.done ?_
 refine then_n ?_
 refine wpIn_seq ?_
 refine plain ?_
 refine wO (d_call (xl := []) (al := []) Try.func67 (by kernel_rfl) rfl rfl rfl (ref4Gen_ok _)) ?_
 rintro u38 w36 f39
 replace f39 := f39.ps
 obtain ⟨f39, o37⟩ := f39
 replace f39 := f39.less (Y := (Orq bo32 (Orq bo19 (Old W.heap.size)))) (orq_old a33.lts (orq_old a20.lts (old_old oW.size)))
 replace h1 := h1.step0 o37
 replace a20 := a20.step0 o37
 replace a33 := a33.step0 o37
 replace oW := oW.tail0 o37
 refine wI (d_assign rfl) ?_
 refine wF ([(zf23 0), (zf23 1), (zf23 2), u17, u30, u38, undef, undef] ++ (zs zf23 8 7 ++ [(sli b24 0 0 0), u17, u30, u38] ++ (zs zf23 19 18 ++ (us 18 ++ (zs zf23 55 5))))) ?_
 refine wpL.done ?_
 refine then_n ?_
 refine wpIn_seq ?_
 refine wpIn_seq ?_
 have hpl_ := pad4_length c0
 refine plain ?_
 refine wI (d_assign rfl) ?_
 refine wF ([(zf23 0), (zf23 1), (zf23 2), u17, u30, u38, (eN 223), undef] ++ (zs zf23 8 7 ++ [(sli b24 0 0 0), u17, u30, u38] ++ (zs zf23 19 18 ++ (us 18 ++ (zs zf23 55 5))))) ?_
 refine wpL.done ?_
 refine then_n ?_
 refine wpIn_block ?_
 refine loop2 (fun (s_ : (Nat) × (List UInt8)) => match s_ with | ⟨k, rl⟩ => fun (z : Nat → Value) => (([(zf23 0), (zf23 1), (zf23 2), u17, u30, u38, (eN k), (z 7), (z 8)] ++ (zs zf23 9 6 ++ [(sli b24 0 0 0), u17, u30, u38] ++ (zs z 19 36 ++ (zs zf23 55 5)))) : List Value)) (fun (s_ : (Nat) × (List UInt8)) => match s_ with | ⟨k, rl⟩ => fun (w_ : World) => (31 ≤ k ∧ k ≤ 223) ∧ (Rest4 la rl k) ∧ Only (Orq bo32 (Orq bo19 No)) w36 w_ ∧ Ow 5 1 bo19 u17 (pad4 la).length ((pad4 la).map eB) w_ ∧ Ow 5 1 bo32 u30 (rl).length ((rl).map eB) w_) (fun (s_ : (Nat) × (List UInt8)) => match s_ with | ⟨k, rl⟩ => k) ⟨223, pad4 la⟩ rfl ?_ ?_
 ·
  refine ⟨?_, ?_, ?_, ?_, ?_⟩
  ·
   (try dsimp only)
   all_goals (omega)
  ·
   exact Rest4.init c0
  ·
   exact Only.refl _ _
  ·
   exact a20
  ·
   exact a33
 rintro ⟨k, rl⟩ z w41 ⟨hk, hR, o40, a20, a33⟩
 (try dsimp only)
 replace h1 := h1.step o40 (orq_mono (orq_mono no_any))
 replace f39 := f39.step o40 (orq_mono (orq_mono no_any))
 replace oW := oW.tail o40 (tl_q q_oW_rest (fun _ e => by cases e) (tl_q q_oW_out (fun _ e => by cases e) tl_no))
 have q_o40_out : Fr bo19 bo19 w36.heap.size := Fr.same
 have q_o40_rest : Fr bo32 bo32 w36.heap.size := Fr.same
 refine wpIn_seq ?_
 refine wpIn_seq ?_
 refine plain ?_
 refine wI (d_move rfl) ?_
 refine wI (n_geq (a := k) (b := 32) rfl rfl rfl) ?_
 refine wF ([(zf23 0), (zf23 1), (zf23 2), u17, u30, u38, (eN k), (z 7), (z 8)] ++ (zs zf23 9 6 ++ [(sli b24 0 0 0), u17, u30, u38, (eN k), (Value.bool (decide (32 ≤ k)))] ++ (zs z 21 34 ++ (zs zf23 55 5)))) ?_
 refine wpL.done ?_
 refine then_n ?_
 refine cond_if rfl (fun c1 => ?_) (fun c1 => ?_)
 ·
  have hrl_ := hR.len
  refine wpIn_skip ?_
  refine then_n ?_
  refine wpIn_seq ?_
  refine wpIn_block ?_
  refine wpIn_seq ?_
  refine wpIn_seq ?_
  refine plain ?_
  refine wI (d_move rfl) ?_
  refine wI (d_move rfl) ?_
  refine wO (d_call (xl := [.tmp 23, .tmp 24]) (al := [u30, (eN k)]) Try.func68 (by kernel_rfl) rfl rfl rfl (ref4Bit_ok rl k u30 _ (Ps.no (a33.seq (X := No) (fun _ _ h => h))) (by first | omega | (simp; done) | (simp; omega)) (by first | omega | (simp; done) | (simp; omega)))) ?_
  rintro _ w42 ⟨rfl, o43⟩
  replace h1 := h1.step0 o43
  replace f39 := f39.step0 o43
  replace a20 := a20.step0 o43
  replace a33 := a33.step0 o43
  replace oW := oW.tail0 o43
  replace o40 := o40.tail0 o43
  refine wF ([(zf23 0), (zf23 1), (zf23 2), u17, u30, u38, (eN k), (z 7), (z 8)] ++ (zs zf23 9 6 ++ [(sli b24 0 0 0), u17, u30, u38, (eN k), (Value.bool (decide (32 ≤ k))), (z 21), (z 22), u30, (eN k), (eB (btB rl k))] ++ (zs z 26 29 ++ (zs zf23 55 5)))) ?_
  refine wI (b_eql (c := (btB rl k)) (e := 0) rfl rfl rfl) ?_
  refine wF ([(zf23 0), (zf23 1), (zf23 2), u17, u30, u38, (eN k), (z 7), (z 8)] ++ (zs zf23 9 6 ++ [(sli b24 0 0 0), u17, u30, u38, (eN k), (Value.bool (decide (32 ≤ k))), (z 21), (z 22), u30, (eN k), (eB (btB rl k)), (Value.bool (decide (((btB rl k) : UInt8) = (0 : UInt8))))] ++ (zs z 27 28 ++ (zs zf23 55 5)))) ?_
  refine wpL.done ?_
  refine then_n ?_
  refine cond_if rfl (fun c2 => ?_) (fun c2 => ?_)
  ·
   have hb_ : bt rl k = false := btB_no.1 c2
   refine wpIn_exit ?_
   refine then_x (inb_e ?_)
   refine then_n ?_
   refine plain ?_
   refine wI (d_move rfl) ?_
   refine wI (n_sub (a := k) (b := 1) rfl rfl (by omega) (by omega)) ?_
   refine wI (d_assign rfl) ?_
   refine wF ([(zf23 0), (zf23 1), (zf23 2), u17, u30, u38, (eN (k - 1)), (z 7), (z 8)] ++ (zs zf23 9 6 ++ [(sli b24 0 0 0), u17, u30, u38, (eN k), (Value.bool (decide (32 ≤ k))), (eN k), (eN (k - 1)), u30, (eN k), (eB (btB rl k)), (Value.bool (decide (((btB rl k) : UInt8) = (0 : UInt8))))] ++ (zs z 27 28 ++ (zs zf23 55 5)))) ?_
   refine wpL.done ?_
   refine then_n ?_
   refine ⟨_, ⟨k - 1, rl⟩, rfl, rfl, ⟨?_, ?_, ?_, ?_, ?_⟩, ?_⟩
   ·
    (try dsimp only)
    all_goals (omega)
   ·
    exact hR.skip (by omega) hb_
   ·
    exact o40
   ·
    exact a20
   ·
    exact a33
   ·
    (try dsimp only)
    all_goals (omega)
  have hb_ : bt rl k = true := by cases h__ : bt rl k with | true => rfl | false => exact absurd (btB_no.2 h__) c2
  refine wpIn_skip ?_
  refine then_n ?_
  refine wpIn_seq ?_
  refine plain ?_
  refine wI (d_assign rfl) ?_
  refine wF ([(zf23 0), (zf23 1), (zf23 2), u17, u30, u38, (eN k), (eN 0), (z 8)] ++ (zs zf23 9 6 ++ [(sli b24 0 0 0), u17, u30, u38, (eN k), (Value.bool (decide (32 ≤ k))), (z 21), (z 22), u30, (eN k), (eB (btB rl k)), (Value.bool (decide (((btB rl k) : UInt8) = (0 : UInt8))))] ++ (zs z 27 28 ++ (zs zf23 55 5)))) ?_
  refine wpL.done ?_
  refine then_n ?_
  refine wpIn_block ?_
  refine loop2 (fun (i : (Nat)) => fun (z : Nat → Value) => (([(zf23 0), (zf23 1), (zf23 2), u17, u30, u38, (eN k), (eN i), (z 8)] ++ (zs zf23 9 6 ++ [(sli b24 0 0 0), u17, u30, u38, (eN k), (Value.bool (decide (32 ≤ k))), (z 21), (z 22), u30, (eN k), (eB (btB rl k)), (Value.bool (decide (((btB rl k) : UInt8) = (0 : UInt8))))] ++ (zs z 27 28 ++ (zs zf23 55 5)))) : List Value)) (fun (i : (Nat)) => fun (w_ : World) => (i ≤ 33) ∧ Only (Orq bo32 (Orq bo19 No)) w42 w_ ∧ Ow 5 1 bo19 u17 (pad4 la).length ((pad4 la).map eB) w_ ∧ Ow 5 1 bo32 u30 (xorG rl (k - 32) i).length ((xorG rl (k - 32) i).map eB) w_) (fun (i : (Nat)) => 33 - i) 0 rfl ?_ ?_
  ·
   refine ⟨?_, ?_, ?_, ?_⟩
   ·
    (try dsimp only)
    all_goals (omega)
   ·
    exact Only.refl _ _
   ·
    exact a20
   ·
    (try dsimp only)
    all_goals (rw [← xorG_zero hrl_]; exact a33)
  rintro i z w45 ⟨hi, o44, a20, a33⟩
  (try dsimp only)
  replace h1 := h1.step o44 (orq_mono (orq_mono no_any))
  replace f39 := f39.step o44 (orq_mono (orq_mono no_any))
  replace oW := oW.tail o44 (tl_q q_oW_rest (fun _ e => by cases e) (tl_q q_oW_out (fun _ e => by cases e) tl_no))
  replace o40 := o40.tail o44 (tl_q q_o40_rest (fun k e => (.inl e)) (tl_q q_o40_out (fun k e => (.inr (.inl e))) tl_no))
  have q_o44_out : Fr bo19 bo19 w42.heap.size := Fr.same
  have q_o44_rest : Fr bo32 bo32 w42.heap.size := Fr.same
  refine wpIn_seq ?_
  refine wpIn_seq ?_
  refine plain ?_
  refine wI (d_move rfl) ?_
  refine wI (d_move rfl) ?_
  refine wI (d_lenS rfl Try.underlying22 rfl f39) ?_
  refine wF ([(zf23 0), (zf23 1), (zf23 2), u17, u30, u38, (eN k), (eN i), (z 8)] ++ (zs zf23 9 6 ++ [(sli b24 0 0 0), u17, u30, u38, (eN k), (Value.bool (decide (32 ≤ k))), (z 21), (z 22), u30, (eN k), (eB (btB rl k)), (Value.bool (decide (((btB rl k) : UInt8) = (0 : UInt8)))), (eN i), u38, (eN genP.length)] ++ (zs z 30 25 ++ (zs zf23 55 5)))) ?_
  refine wI (n_lss (a := i) (b := genP.length) rfl rfl rfl) ?_
  refine wF ([(zf23 0), (zf23 1), (zf23 2), u17, u30, u38, (eN k), (eN i), (z 8)] ++ (zs zf23 9 6 ++ [(sli b24 0 0 0), u17, u30, u38, (eN k), (Value.bool (decide (32 ≤ k))), (z 21), (z 22), u30, (eN k), (eB (btB rl k)), (Value.bool (decide (((btB rl k) : UInt8) = (0 : UInt8)))), (eN i), u38, (eN genP.length), (Value.bool (decide (i < genP.length)))] ++ (zs z 31 24 ++ (zs zf23 55 5)))) ?_
  refine wpL.done ?_
  refine then_n ?_
  refine cond_if rfl (fun c3 => ?_) (fun c3 => ?_)
  ·
   have hxl_ := xorG_length rl (k - 32) i; have hgl_ := genP_facts.1
   refine wpIn_skip ?_
   refine then_n ?_
   refine wpIn_seq ?_
   refine wpIn_block ?_
   refine wpIn_seq ?_
   refine plain ?_
   refine wI (d_move rfl) ?_
   refine wI (n_sub (a := k) (b := 32) rfl rfl (by omega) (by omega)) ?_
   refine wI (d_move rfl) ?_
   refine wF ([(zf23 0), (zf23 1), (zf23 2), u17, u30, u38, (eN k), (eN i), (z 8)] ++ (zs zf23 9 6 ++ [(sli b24 0 0 0), u17, u30, u38, (eN k), (Value.bool (decide (32 ≤ k))), (z 21), (z 22), u30, (eN k), (eB (btB rl k)), (Value.bool (decide (((btB rl k) : UInt8) = (0 : UInt8)))), (eN i), u38, (eN genP.length), (Value.bool (decide (i < genP.length))), (z 31), (z 32), (eN k), (eN (k - 32)), (eN i)] ++ (zs z 36 19 ++ (zs zf23 55 5)))) ?_
   refine wI (n_add (a := (k - 32)) (b := i) rfl rfl (by omega)) ?_
   refine wI (d_assign rfl) ?_
   refine wF ([(zf23 0), (zf23 1), (zf23 2), u17, u30, u38, (eN k), (eN i), (eN (k - 32 + i))] ++ (zs zf23 9 6 ++ [(sli b24 0 0 0), u17, u30, u38, (eN k), (Value.bool (decide (32 ≤ k))), (z 21), (z 22), u30, (eN k), (eB (btB rl k)), (Value.bool (decide (((btB rl k) : UInt8) = (0 : UInt8)))), (eN i), u38, (eN genP.length), (Value.bool (decide (i < genP.length))), (z 31), (z 32), (eN k), (eN (k - 32)), (eN i), (eN (k - 32 + i))] ++ (zs z 37 18 ++ (zs zf23 55 5)))) ?_
   refine wpL.done ?_
   refine then_n ?_
   refine forget (fun zf46 => ([(zf23 0), (zf23 1), (zf23 2), u17, u30, u38, (eN k), (eN i), (eN (k - 32 + i))] ++ (zs zf23 9 6 ++ [(sli b24 0 0 0), u17, u30, u38, (eN k), (Value.bool (decide (32 ≤ k))), (z 21), (z 22), u30, (eN k), (eB (btB rl k)), (Value.bool (decide (((btB rl k) : UInt8) = (0 : UInt8))))] ++ (zs zf46 27 10 ++ (zs z 37 18 ++ (zs zf23 55 5)))))) (by kernel_rfl) (fun zf46 => ?_)
   refine drawn_last (O := (Isq bo32)) (m := 18) (R := fun w_ => Ow 5 1 bo32 u30 ((xorG rl (k - 32) i).set ((k - 32 + i) / 8) (((xorG rl (k - 32) i).getD ((k - 32 + i) / 8) 0) ^^^ (shlB (genP.getD i 0) ((k - 32 + i) % 8)))).length (((xorG rl (k - 32) i).set ((k - 32 + i) / 8) (((xorG rl (k - 32) i).getD ((k - 32 + i) / 8) 0) ^^^ (shlB (genP.getD i 0) ((k - 32 + i) % 8)))).map eB) w_) [0, 0, 2, 0, 0, 16, 56, 120, 0, 0, 768, 1792, 0, 4096, 12288, 32512, 65528, 131071, 262143] [(0, 37), (1, 38), (2, 39), (3, 40), (4, 41), (5, 42), (6, 43), (7, 44), (8, 45), (9, 46), (10, 47), (11, 48), (12, 49), (13, 50), (14, 51), (15, 52), (16, 53), (17, 54)] [u30, (eN (k - 32 + i)), (eN ((k - 32 + i) / 8)), u30, (eN (k - 32 + i)), (eN ((k - 32 + i) / 8)), (ixp u30 ((k - 32 + i) / 8)), (eB ((xorG rl (k - 32) i).getD ((k - 32 + i) / 8) 0)), u38, (eN i), (ixp u38 i), (eB (genP.getD i 0)), (eN (k - 32 + i)), (eN ((k - 32 + i) % 8)), (Value.int .u64 (((k - 32 + i) % 8 : Nat) : Int)), (eB (shlB (genP.getD i 0) ((k - 32 + i) % 8))), (eB (((xorG rl (k - 32) i).getD ((k - 32 + i) / 8) 0) ^^^ (shlB (genP.getD i 0) ((k - 32 + i) % 8)))), (ixp u30 ((k - 32 + i) / 8))] ([(zf23 0), (zf23 1), (zf23 2), u17, u30, u38, (eN k), (eN i), (eN (k - 32 + i))] ++ (zs zf23 9 6 ++ [(sli b24 0 0 0), u17, u30, u38, (eN k), (Value.bool (decide (32 ≤ k))), (z 21), (z 22), u30, (eN k), (eB (btB rl k)), (Value.bool (decide (((btB rl k) : UInt8) = (0 : UInt8))))] ++ (zs zf46 27 10 ++ [u30, (eN (k - 32 + i)), (eN ((k - 32 + i) / 8)), u30, (eN (k - 32 + i)), (eN ((k - 32 + i) / 8)), (ixp u30 ((k - 32 + i) / 8)), (eB ((xorG rl (k - 32) i).getD ((k - 32 + i) / 8) 0)), u38, (eN i), (ixp u38 i), (eB (genP.getD i 0)), (eN (k - 32 + i)), (eN ((k - 32 + i) % 8)), (Value.int .u64 (((k - 32 + i) % 8 : Nat) : Int)), (eB (shlB (genP.getD i 0) ((k - 32 + i) % 8))), (eB (((xorG rl (k - 32) i).getD ((k - 32 + i) / 8) 0) ^^^ (shlB (genP.getD i 0) ((k - 32 + i) % 8)))), (ixp u30 ((k - 32 + i) / 8))] ++ (zs zf23 55 5)))) s_mx (by kernel_rfl) (by kernel_rfl) rfl rfl (by decide) (by kernel_rfl) (by kernel_rfl) ?_ (fun _ _ h_ ho_ => h_.step0 ho_) ⟨_, rfl, rfl, fun w_ hO_ => gd rfl ((d_stx (i := ((k - 32 + i) / 8)) (xs := (xorG rl (k - 32) i)) (enc := eB) (v := (((xorG rl (k - 32) i).getD ((k - 32 + i) / 8) 0) ^^^ (shlB (genP.getD i 0) ((k - 32 + i) % 8)))) s_ti5 rfl rfl rfl (a33.step0 hO_) (by omega) rfl).mono fun u_ w2_ h_ => ⟨h_.2, h_.1⟩)⟩ ?_
   ·
    intro w_ hO_
    refine AllG.cons (gi rfl (d_move rfl)) ?_
    refine AllG.cons (gi rfl (d_move rfl)) ?_
    refine AllG.cons (gi rfl (n_quo (a := (k - 32 + i)) (b := 8) rfl rfl (by decide) (by omega))) ?_
    refine AllG.cons (gi rfl (d_move rfl)) ?_
    refine AllG.cons (gi rfl (d_move rfl)) ?_
    refine AllG.cons (gi rfl (n_quo (a := (k - 32 + i)) (b := 8) rfl rfl (by decide) (by omega))) ?_
    refine AllG.cons (gi rfl (d_ix (i := ((k - 32 + i) / 8)) (xs := (xorG rl (k - 32) i)) Try.underlying22 s_ti5 rfl ((a33.step0 hO_).seq (X := No) (fun _ _ h => h)) (show _ = Value.int _ (((k - 32 + i) / 8 : Nat) : Int) from rfl) (by have := xorG_length rl (k - 32) i; first | omega | (simp; done) | (simp; omega)))) ?_
    refine AllG.cons (gi rfl (d_ldx (i := ((k - 32 + i) / 8)) (xs := (xorG rl (k - 32) i)) (enc := eB) (v := ((xorG rl (k - 32) i).getD ((k - 32 + i) / 8) 0)) ⟨_, Try.underlying5, rfl⟩ rfl ((a33.step0 hO_).seq (X := No) (fun _ _ h => h)) (g_at (by have := xorG_length rl (k - 32) i; first | omega | (simp; done) | (simp; omega))))) ?_
    refine AllG.cons (gi rfl (d_move rfl)) ?_
    refine AllG.cons (gi rfl (d_move rfl)) ?_
    refine AllG.cons (gi rfl (d_ix (i := i) (xs := genP) Try.underlying22 s_ti5 rfl (f39.step0 hO_) (show _ = Value.int _ ((i : Nat) : Int) from rfl) (by have := genP_facts.1; first | omega | (simp; done) | (simp; omega)))) ?_
    refine AllG.cons (gi rfl (d_ldx (i := i) (xs := genP) (enc := eB) (v := (genP.getD i 0)) ⟨_, Try.underlying5, rfl⟩ rfl (f39.step0 hO_) (g_at (by have := genP_facts.1; first | omega | (simp; done) | (simp; omega))))) ?_
    refine AllG.cons (gi rfl (d_move rfl)) ?_
    refine AllG.cons (gi rfl (n_rem (a := (k - 32 + i)) (b := 8) rfl rfl (by decide))) ?_
    refine AllG.cons (gi rfl (n_toU Try.underlying3 Try.underlying66 rfl (by omega))) ?_
    refine AllG.cons (gi rfl (b_shl (a := ((k - 32 + i) % 8)) rfl rfl (by omega))) ?_
    refine AllG.cons (gi rfl (b_xor (c := ((xorG rl (k - 32) i).getD ((k - 32 + i) / 8) 0)) (e := (shlB (genP.getD i 0) ((k - 32 + i) % 8))) rfl rfl)) ?_
    refine AllG.cons (gi rfl (d_ix (i := ((k - 32 + i) / 8)) (xs := (xorG rl (k - 32) i)) Try.underlying22 s_ti5 rfl ((a33.step0 hO_).seq (X := No) (fun _ _ h => h)) (show _ = Value.int _ (((k - 32 + i) / 8 : Nat) : Int) from rfl) (by have := xorG_length rl (k - 32) i; first | omega | (simp; done) | (simp; omega)))) ?_
    exact AllG.nil
   intro w47 o48 a49
   replace h1 := h1.gr o48 (fun k e => (.inl e)) (xx_re Fr.same (xx_orq xx_id))
   replace f39 := f39.gr o48 (fun k e => (.inl e)) (xx_re Fr.same (xx_orq xx_id))
   have lt2 := a20.lts
   replace a20 := a20.step o48 (fun x hx e => nqq_out_rest x hx e)
   replace nqq_out_rest := nqq_step nqq_out_rest Fr.same lt2
   clear lt2
   have tq := oW.size
   replace oW := oW.tailr o48 q_oW_rest (fun _ e => by cases e)
   replace q_oW_rest := qtr Fr.same q_oW_rest tq
   clear tq
   have tq := o40.size
   replace o40 := o40.tailr o48 q_o40_rest (fun k e => (.inl e))
   replace q_o40_rest := qtr Fr.same q_o40_rest tq
   clear tq
   have tq := o44.size
   replace o44 := o44.tailr o48 q_o44_rest (fun k e => (.inl e))
   replace q_o44_rest := qtr Fr.same q_o44_rest tq
   clear tq
   refine inb_n (then_n ?_)
   refine plain ?_
   refine wI (d_move rfl) ?_
   refine wI (n_add (a := i) (b := 1) rfl rfl (by omega)) ?_
   refine wI (d_assign rfl) ?_
   refine wF ([(zf23 0), (zf23 1), (zf23 2), u17, u30, u38, (eN k), (eN (i + 1)), (eN (k - 32 + i))] ++ (zs zf23 9 6 ++ [(sli b24 0 0 0), u17, u30, u38, (eN k), (Value.bool (decide (32 ≤ k))), (z 21), (z 22), u30, (eN k), (eB (btB rl k)), (Value.bool (decide (((btB rl k) : UInt8) = (0 : UInt8)))), (zf46 27), (zf46 28), (zf46 29), (zf46 30), (eN i), (eN (i + 1)), (zf46 33), (zf46 34), (zf46 35), (zf46 36), u30, (eN (k - 32 + i)), (eN ((k - 32 + i) / 8)), u30, (eN (k - 32 + i)), (eN ((k - 32 + i) / 8)), (ixp u30 ((k - 32 + i) / 8)), (eB ((xorG rl (k - 32) i).getD ((k - 32 + i) / 8) 0)), u38, (eN i), (ixp u38 i), (eB (genP.getD i 0)), (eN (k - 32 + i)), (eN ((k - 32 + i) % 8)), (Value.int .u64 (((k - 32 + i) % 8 : Nat) : Int)), (eB (shlB (genP.getD i 0) ((k - 32 + i) % 8))), (eB (((xorG rl (k - 32) i).getD ((k - 32 + i) / 8) 0) ^^^ (shlB (genP.getD i 0) ((k - 32 + i) % 8)))), (ixp u30 ((k - 32 + i) / 8))] ++ (zs zf23 55 5))) ?_
   refine wpL.done ?_
   refine then_n ?_
   refine ⟨_, (i + 1), rfl, rfl, ⟨?_, ?_, ?_, ?_⟩, ?_⟩
   ·
    (try dsimp only)
    all_goals (omega)
   ·
    exact o44
   ·
    exact a20
   ·
    (try dsimp only)
    all_goals (rw [xorG_step (by omega)] at a49; exact a49)
   ·
    (try dsimp only)
    all_goals (omega)
  have hgl_ := genP_facts.1
  refine wpIn_exit ?_
  refine then_x (then_x (inb_e ?_))
  refine inb_n (then_n ?_)
  refine forget (fun zf50 => ([(zf23 0), (zf23 1), (zf23 2), u17, u30, u38, (eN k), (eN i), (zf50 8)] ++ (zs zf23 9 6 ++ [(sli b24 0 0 0), u17, u30, u38] ++ (zs zf50 19 18 ++ (zs z 37 18 ++ (zs zf23 55 5)))))) (by kernel_rfl) (fun zf50 => ?_)
  refine plain ?_
  refine wI (d_move rfl) ?_
  refine wI (n_sub (a := k) (b := 1) rfl rfl (by omega) (by omega)) ?_
  refine wI (d_assign rfl) ?_
  refine wF ([(zf23 0), (zf23 1), (zf23 2), u17, u30, u38, (eN (k - 1)), (eN i), (zf50 8)] ++ (zs zf23 9 6 ++ [(sli b24 0 0 0), u17, u30, u38, (zf50 19), (zf50 20), (eN k), (eN (k - 1))] ++ (zs zf50 23 14 ++ (zs z 37 18 ++ (zs zf23 55 5))))) ?_
  refine wpL.done ?_
  refine then_n ?_
  refine ⟨_, ⟨k - 1, xorG rl (k - 32) i⟩, rfl, rfl, ⟨?_, ?_, ?_, ?_, ?_⟩, ?_⟩
  ·
   (try dsimp only)
   all_goals (omega)
  ·
   exact hR.take (by omega) (by omega) hb_ (by omega)
  ·
   exact o40
  ·
   exact a20
  ·
   exact a33
  ·
   (try dsimp only)
   all_goals (omega)
 have hrl_ := hR.len
 refine wpIn_exit ?_
 refine then_x (then_x (inb_e ?_))
 refine then_n ?_
 refine wpIn_seq ?_
 have f51 : Ps (Orq bo19 (Old W.heap.size)) (Seq kB rl u30) w41 := Ow.seq a33 (fun b_ hb_ => (not_orq (fun x_ hx_ e_ => nqq_out_rest x_ hx_ (e_ ▸ hb_)) (old_q q_oW_rest b_ hb_)))
 replace h1 := Ps.less (Y := (Orq bo19 No)) h1 (xx_skip (xx_orq xx_id))
 replace f39 := Ps.less (Y := (Orq bo19 (Old W.heap.size))) f39 (xx_skip (xx_orq xx_id))
 refine plain ?_
 refine wI (d_move rfl) ?_
 refine wI (d_move rfl) ?_
 refine wO (d_sliceS (xs := rl) (ys := (rl.take 4)) (l := 0) (h := 4) Try.underlying22 s_ti5 rfl f51 Bd.none (Bd.some (l := 4) (k := .i64) rfl) (by omega) (by omega) (by simp)) ?_
 rintro u52 _ ⟨f53, rfl⟩
 refine wF ([(zf23 0), (zf23 1), (zf23 2), u17, u30, u38, (eN k), (z 7), (z 8)] ++ (zs zf23 9 6 ++ [(sli b24 0 0 0), u17, u30, u38, (eN k), (Value.bool (decide (32 ≤ k)))] ++ (zs z 21 34 ++ [u17, u30, u52, (zf23 58), (zf23 59)]))) ?_
 refine wO (d_copyOw (xs := (pad4 la)) (zs := ((rl.take 4).take 4 ++ (pad4 la).drop 4)) (j := 4) rfl Try.underlying22 s_ti5 rfl rfl a20 f53 (fun _ => rfl) (by omega) (by rw [List.length_take, hrl_, hpl_]; rfl) rfl) ?_
 rintro _ w54 ⟨rfl, a55, o56⟩
 replace h1 := h1.gr o56 (fun k e => (.inl e)) (xx_re Fr.same xx_id)
 replace f39 := f39.gr o56 (fun k e => (.inl e)) (xx_re Fr.same xx_id)
 replace f51 := f51.gr o56 (fun k e => (.inl e)) (xx_re Fr.same xx_id)
 replace f53 := f53.gr o56 (fun k e => (.inl e)) (xx_re Fr.same xx_id)
 have tq := oW.size
 replace oW := oW.tailr o56 q_oW_out (fun _ e => by cases e)
 replace q_oW_out := qtr Fr.same q_oW_out tq
 clear tq
 have tq := o40.size
 replace o40 := o40.tailr o56 q_o40_out (fun k e => (.inr (.inl e)))
 replace q_o40_out := qtr Fr.same q_o40_out tq
 clear tq
 refine wF ([(zf23 0), (zf23 1), (zf23 2), u17, u30, u38, (eN k), (z 7), (z 8)] ++ (zs zf23 9 6 ++ [(sli b24 0 0 0), u17, u30, u38, (eN k), (Value.bool (decide (32 ≤ k)))] ++ (zs z 21 34 ++ [u17, u30, u52, (eN 4), (zf23 59)]))) ?_
 refine wpL.done ?_
 refine then_n ?_
 refine forget (fun zf57 => ([(zf57 0), (zf57 1), (zf57 2), u17, (zf57 4), (zf57 5), (eN k), (z 7)] ++ (zs zf57 8 52))) (by kernel_rfl) (fun zf57 => ?_)
 refine wpIn_seq ?_
 refine plain ?_
 refine wI (d_move rfl) ?_
 refine wI (d_assign rfl) ?_
 refine wF ([(zf57 0), (zf57 1), u17, u17, (zf57 4), (zf57 5), (eN k), (z 7)] ++ (zs zf57 8 51 ++ [u17])) ?_
 refine wpL.done ?_
 refine then_n ?_
 refine wpIn_ret ?_
 refine leave0 (v := u17) (res1 Try.results42 rfl) ?_
 exact ROw.mk_ a55 (by rw [encR_yes c0]; exact hR.done c0 (by omega)) q_oW_out oW

end Go.Proofs.YtgalehapmdabeaaF
