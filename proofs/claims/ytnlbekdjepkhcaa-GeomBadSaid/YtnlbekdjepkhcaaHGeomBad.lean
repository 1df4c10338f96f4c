import Derived.Test.YtnlbekdjepkhcaaFp
import Derived.Test.YtnlbekdjepkhcaaTy
import Derived.Test.YtnlbekdjepkhcaaHgeom
import Derived.Test.YtnlbekdjepkhcaaGt
set_option linter.unusedVariables false
set_option linter.unusedSimpArgs false
namespace Go.Proofs.YtnlbekdjepkhcaaF
open Go Go.Shelf Go.Proofs.YtnlbekdjepkhcaaS Ram
set_option maxRecDepth 20000 in
set_option maxHeartbeats 4000000 in
theorem geomBad_law (die : Int) (ls : List Int) (ns : List (Int × Int)) (u1 u2 : Value) (W : World) (h1 : Ps No (Seq kI ls u1) W) (h2 : Ps No (Seq (kA 2 eQ) ns u2) W) (g1 : ls.length ≤ 140737488351232) :
    CW Try.prog 14 #[(eI die), u1, u2] W (Rt (RIs (.bool true) W)) := by
 have oW : Only No W W := Only.refl _ _
 refine enter (al := [(eI die), u1, u2]) (k := 137) (l := ([(eI die), u1, u2] ++ (us 137))) Try.func14 rfl Try.ntmps14 rfl rfl ?_
 refine wpIn_seq ?_
 refine plain ?_
 refine wI (d_assign rfl) ?_
 refine wF ([(eI die), u1, u2, undef, undef, undef, (Value.bool false)] ++ (us 133)) ?_
 refine wpL.done ?_
 refine then_n ?_
 refine wpIn_seq ?_
 refine wpIn_seq ?_
 refine plain ?_
 refine wO (d_call (xl := []) (al := []) Try.func15 (by kernel_rfl) rfl rfl rfl (law9Known_ok _)) ?_
 rintro _ w11 ⟨rfl, o12⟩
 replace h1 := h1.step0 o12
 replace h2 := h2.step0 o12
 replace oW := oW.tail0 o12
 refine wI (d_not rfl rfl) ?_
 refine wF ([(eI die), u1, u2, undef, undef, undef, (Value.bool false)] ++ (us 11 ++ [(Value.bool true), (Value.bool false)] ++ (us 120))) ?_
 refine wpL.done ?_
 refine then_n ?_
 refine cond_f rfl ?_
 refine wpIn_skip ?_
 refine then_n ?_
 refine wpIn_seq ?_
 refine wpIn_seq ?_
 by_cases kn : 20 < ns.length
 ·
  refine plain ?_
  refine wI (d_move rfl) ?_
  refine wI (d_lenS rfl Try.underlying42 rfl h2) ?_
  refine wI (n_gtr (a := ns.length) (b := 20) rfl rfl (decide_eq_true kn)) ?_
  refine wF ([(eI die), u1, u2, undef, undef, undef, (Value.bool false)] ++ (us 11 ++ [(Value.bool true), (Value.bool false), u2, (eN ns.length), (Value.bool true)] ++ (us 117))) ?_
  refine wpL.done ?_
  refine then_n ?_
  refine cond_t rfl ?_
  refine wpIn_seq ?_
  refine plain ?_
  refine wI (d_assign rfl) ?_
  refine wF ([(eI die), u1, u2, undef, undef, undef, (Value.bool true)] ++ (us 11 ++ [(Value.bool true), (Value.bool false), u2, (eN ns.length), (Value.bool true)] ++ (us 117))) ?_
  refine wpL.done ?_
  refine then_n ?_
  refine forget (fun zf13 => (zs zf13 0 6 ++ [(Value.bool true), (zf13 7), (zf13 8), undef, (zf13 10), undef, undef, (zf13 13), undef, (zf13 15), undef, undef] ++ (zs zf13 18 122))) (by kernel_rfl) (fun zf13 => ?_)
  refine wpIn_ret ?_
  refine then_r ?_
  refine leave0 (v := (Value.bool true)) (res1 Try.results14 rfl) ?_
  exact ⟨rfl, oW⟩
 refine plain ?_
 refine wI (d_move rfl) ?_
 refine wI (d_lenS rfl Try.underlying42 rfl h2) ?_
 refine wI (n_gtr (a := ns.length) (b := 20) rfl rfl (decide_eq_false kn)) ?_
 refine wF ([(eI die), u1, u2, undef, undef, undef, (Value.bool false)] ++ (us 11 ++ [(Value.bool true), (Value.bool false), u2, (eN ns.length), (Value.bool false)] ++ (us 117))) ?_
 refine wpL.done ?_
 refine then_n ?_
 refine cond_f rfl ?_
 refine wpIn_skip ?_
 refine then_n ?_
 refine wpIn_seq ?_
 refine plain ?_
 refine wI (d_buildS (pl := [(0, 1), (1, 1), (2, 1)]) (zs := [(eN 0), (eN 0), (eN 0)]) (cs := [(eN 6), (eN 12), (eN 4)]) Try.underlying25 s_ti25 ⟨_, _, _, _, rfl, s_ti3, ⟨_, _, _, _, rfl, s_ti3, ⟨_, _, _, _, rfl, s_ti3, rfl⟩⟩⟩ rfl (parts_cons (vs := [(eN 6)]) (cells_of (v := (eN 6)) rfl rfl) (parts_cons (vs := [(eN 12)]) (cells_of (v := (eN 12)) rfl rfl) (parts_cons (vs := [(eN 4)]) (cells_of (v := (eN 4)) rfl rfl) parts_nil))) rfl) ?_
 refine wO (d_alloc s_ti25 rfl) ?_
 rintro _ w14 ⟨g0, rfl, g15, a16, o17⟩
 have g_oW_g0 : W.heap.size ≤ g0 := Nat.le_trans oW.size g15
 replace h1 := h1.new o17 g15
 replace h2 := h2.new o17 g15
 replace oW := oW.tail0 o17
 refine wO (d_storeAg (cs' := [(eN 6), (eN 12), (eN 4)]) s_ti25 rfl rfl rfl (oc_cons rfl (oc_cons rfl (oc_cons rfl oc_nil))) a16 (by decide) rfl) ?_
 rintro _ w18 ⟨a19, o20⟩
 replace h1 := h1.stepb o20 in1
 replace h2 := h2.stepb o20 in1
 replace oW := oW.tailb o20 g_oW_g0
 refine wF ([(eI die), u1, u2, undef, undef, undef, (Value.bool false), (ptr g0 0)] ++ (us 10 ++ [(Value.bool true), (Value.bool false), u2, (eN ns.length), (Value.bool false), (Value.agg #[(eN 6), (eN 12), (eN 4)])] ++ (us 116))) ?_
 refine wpL.done ?_
 refine then_n ?_
 refine wpIn_seq ?_
 refine plain ?_
 refine wI (d_move rfl) ?_
 refine wO (d_call (xl := [.tmp 24, .const (.int .i64 6)]) (al := [(eI die), (eN 6)]) Try.func16 (by kernel_rfl) rfl rfl rfl (law9Within_ok die 6 _ (by omega) (by omega))) ?_
 rintro _ w21 ⟨rfl, o22⟩
 replace h1 := h1.step0 o22
 replace h2 := h2.step0 o22
 replace a19 := a19.step0 o22
 replace oW := oW.tail0 o22
 refine wI (d_assign rfl) ?_
 refine wF ([(eI die), u1, u2, undef, undef, undef, (Value.bool false), (ptr g0 0), (eN ((die % ((6 : Nat) : Int)).toNat))] ++ (us 9 ++ [(Value.bool true), (Value.bool false), u2, (eN ns.length), (Value.bool false), (Value.agg #[(eN 6), (eN 12), (eN 4)]), (eI die), (eN ((die % ((6 : Nat) : Int)).toNat))] ++ (us 114))) ?_
 refine wpL.done ?_
 refine then_n ?_
 refine forget (fun zf23 => ([(zf23 0), u1, u2, (zf23 3), (zf23 4), (zf23 5), (zf23 6), (ptr g0 0), (eN ((die % ((6 : Nat) : Int)).toNat)), undef, (zf23 10), undef, undef, (zf23 13), undef, (zf23 15), undef, undef] ++ (zs zf23 18 43 ++ (us 26 ++ (zs zf23 87 53))))) (by kernel_rfl) (fun zf23 => ?_)
 refine wpIn_seq ?_
 obtain ⟨dd, hdd, edd⟩ : ∃ dd, dd < 6 ∧ (die % ((6 : Nat) : Int)).toNat = dd := ⟨_, by omega, rfl⟩
 refine wp_eq (l' := ([(zf23 0), u1, u2, (zf23 3), (zf23 4), (zf23 5), (zf23 6), (ptr g0 0), (eN dd), undef, (zf23 10), undef, undef, (zf23 13), undef, (zf23 15), undef, undef] ++ (zs zf23 18 43 ++ (us 26 ++ (zs zf23 87 53))))) (show (([(zf23 0), u1, u2, (zf23 3), (zf23 4), (zf23 5), (zf23 6), (ptr g0 0), (eN ((die % ((6 : Nat) : Int)).toNat)), undef, (zf23 10), undef, undef, (zf23 13), undef, (zf23 15), undef, undef] ++ (zs zf23 18 43 ++ (us 26 ++ (zs zf23 87 53)))) : List Value) = ([(zf23 0), u1, u2, (zf23 3), (zf23 4), (zf23 5), (zf23 6), (ptr g0 0), (eN dd), undef, (zf23 10), undef, undef, (zf23 13), undef, (zf23 15), undef, undef] ++ (zs zf23 18 43 ++ (us 26 ++ (zs zf23 87 53)))) from reslot ([(zf23 0), u1, u2, (zf23 3), (zf23 4), (zf23 5), (zf23 6), (ptr g0 0), (eN ((die % ((6 : Nat) : Int)).toNat)), undef, (zf23 10), undef, undef, (zf23 13), undef, (zf23 15), undef, undef] ++ (zs zf23 18 43 ++ (us 26 ++ (zs zf23 87 53)))) 8 (congrArg eN edd)) ?_
 refine plain ?_
 refine wI (d_assign rfl) ?_
 refine wF ([(zf23 0), u1, u2, (zf23 3), (zf23 4), (zf23 5), (zf23 6), (ptr g0 0), (eN dd), (Value.slice none 0 0), (zf23 10), undef, undef, (zf23 13), undef, (zf23 15), undef, undef] ++ (zs zf23 18 43 ++ (us 26 ++ (zs zf23 87 53)))) ?_
 refine wpL.done ?_
 have a24 : Ow 53 2 none (Value.slice none 0 0) ([] : List (Int × Int)).length (([] : List (Int × Int)).flatMap eQ) w21 := Ow.nil _ _ _
 have nq_bad_g0 : ∀ x, (none : Option Nat) = some x → ¬ x = g0 := fun x e => by cases e
 have q_oW_bad : Fr none none W.heap.size := Fr.none
 replace h1 := h1.qnone
 replace h2 := h2.qnone
 refine then_n ?_
 refine wpIn_seq ?_
 refine plain ?_
 refine wO (d_alloc s_ti56 rfl) ?_
 rintro _ w25 ⟨se, rfl, g26, a27, o28⟩
 have n_g0_se : g0 ≠ se := a19.ne g26
 have nq_bad_se : ∀ x, none = some x → ¬ x = se := fun x hx e => by have := a24.lts x hx; omega
 have g_oW_se : W.heap.size ≤ se := Nat.le_trans oW.size g26
 replace h1 := h1.new o28 g26
 replace h2 := h2.new o28 g26
 replace a19 := a19.step0 o28
 replace a24 := a24.step0 o28
 replace oW := oW.tail0 o28
 refine wF ([(zf23 0), u1, u2, (zf23 3), (zf23 4), (zf23 5), (zf23 6), (ptr g0 0), (eN dd), (Value.slice none 0 0), (ptr se 0), undef, undef, (zf23 13), undef, (zf23 15), undef, undef] ++ (zs zf23 18 43 ++ (us 26 ++ (zs zf23 87 53)))) ?_
 refine wpL.done ?_
 refine then_n ?_
 refine wpIn_seq ?_
 refine plain ?_
 refine wI (d_assign rfl) ?_
 refine wF ([(zf23 0), u1, u2, (zf23 3), (zf23 4), (zf23 5), (zf23 6), (ptr g0 0), (eN dd), (Value.slice none 0 0), (ptr se 0), (eN 0), undef, (zf23 13), undef, (zf23 15), undef, undef] ++ (zs zf23 18 43 ++ (us 26 ++ (zs zf23 87 53)))) ?_
 refine wpL.done ?_
 refine then_n ?_
 refine wpIn_seq ?_
 refine wpIn_seq ?_
 refine plain ?_
 refine wI (d_assign rfl) ?_
 refine wF ([(zf23 0), u1, u2, (zf23 3), (zf23 4), (zf23 5), (zf23 6), (ptr g0 0), (eN dd), (Value.slice none 0 0), (ptr se 0), (eN 0), (eN 0), (zf23 13), undef, (zf23 15), undef, undef] ++ (zs zf23 18 43 ++ (us 26 ++ (zs zf23 87 53)))) ?_
 refine wpL.done ?_
 refine then_n ?_
 refine wpIn_block ?_
 have h_lt_g0 := a19.lt
 have h_lt_se := a27.lt
 have h_lts_bad := a24.lts
 refine loop2 (fun (s_ : (Nat) × (Option Nat) × (Value)) => match s_ with | ⟨i, bo_bad, u_bad⟩ => fun (z : Nat → Value) => (([(zf23 0), u1, u2, (zf23 3), (zf23 4), (zf23 5), (zf23 6), (ptr g0 0), (eN dd), u_bad, (ptr se 0), (eN (seenN ls i)), (eN i), (z 13), undef, (zf23 15), undef, undef] ++ (zs zf23 18 8 ++ (zs z 26 29 ++ (zs zf23 55 6 ++ (us 26 ++ (zs zf23 87 53)))))) : List Value)) (fun (s_ : (Nat) × (Option Nat) × (Value)) => match s_ with | ⟨i, bo_bad, u_bad⟩ => fun (w_ : World) => (i ≤ ls.length ∧ i ≤ 20) ∧ Only (Or1 se (Orq none (Or1 g0 No))) w25 w_ ∧ Arr 25 g0 [(eN 6), (eN 12), (eN 4)] w_ ∧ (seenB ls i).length = 12 ∧ Arr 56 se ((seenB ls i).map eT) w_ ∧ Ow 53 2 bo_bad u_bad (bdP dd ls i).length ((bdP dd ls i).flatMap eQ) w_ ∧ Fr bo_bad none w25.heap.size) (fun (s_ : (Nat) × (Option Nat) × (Value)) => match s_ with | ⟨i, bo_bad, u_bad⟩ => 20 - i) ⟨0, none, (Value.slice none 0 0)⟩ rfl ?_ ?_
 ·
  refine ⟨?_, ?_, ?_, ?_, ?_, ?_, ?_⟩
  ·
   exact ⟨Nat.zero_le _, Nat.zero_le _⟩
  ·
   exact Only.refl _ _
  ·
   exact a19
  ·
   exact seenB_len _ _
  ·
   exact a27
  ·
   exact a24
  ·
   exact Fr.same
 rintro ⟨i, bo_bad, u_bad⟩ z w30 ⟨hi, o29, a19, l_se, a27, a24, qq_bad⟩
 (try dsimp only)
 replace h1 := h1.re o29 (or1_mono (orq_mono (or1_mono no_any))) (xx_or1 (xx_re qq_bad (xx_or1 xx_id)))
 replace h2 := h2.re o29 (or1_mono (orq_mono (or1_mono no_any))) (xx_or1 (xx_re qq_bad (xx_or1 xx_id)))
 have tq_oW := oW.size
 replace oW := oW.tail o29 (tl_new g_oW_se (tl_q q_oW_bad (fun _ e => by cases e) (tl_new g_oW_g0 tl_no)))
 replace q_oW_bad := qtr qq_bad q_oW_bad tq_oW
 replace nq_bad_g0 := nqs nq_bad_g0 qq_bad h_lt_g0
 replace nq_bad_se := nqs nq_bad_se qq_bad h_lt_se
 have q_o29_bad := qq_bad
 refine wpIn_seq ?_
 refine wpIn_seq ?_
 by_cases k0 : i < ls.length
 ·
  by_cases k1 : i < 20
  ·
   refine plain ?_
   refine wI (d_move rfl) ?_
   refine wI (d_move rfl) ?_
   refine wI (d_lenS rfl Try.underlying29 rfl h1) ?_
   refine wF ([(zf23 0), u1, u2, (zf23 3), (zf23 4), (zf23 5), (zf23 6), (ptr g0 0), (eN dd), u_bad, (ptr se 0), (eN (seenN ls i)), (eN i), (z 13), undef, (zf23 15), undef, undef] ++ (zs zf23 18 8 ++ [(eN i), u1, (eN ls.length)] ++ (zs z 29 26 ++ (zs zf23 55 6 ++ (us 26 ++ (zs zf23 87 53)))))) ?_
   refine wI (n_lss (a := i) (b := ls.length) rfl rfl (decide_eq_true k0)) ?_
   refine wI (d_move rfl) ?_
   refine wpL.onis rfl rfl rfl (nb rfl) rfl (d_move rfl) ?_
   refine wF ([(zf23 0), u1, u2, (zf23 3), (zf23 4), (zf23 5), (zf23 6), (ptr g0 0), (eN dd), u_bad, (ptr se 0), (eN (seenN ls i)), (eN i), (z 13), undef, (zf23 15), undef, undef] ++ (zs zf23 18 8 ++ [(eN i), u1, (eN ls.length), (Value.bool true), (Value.bool true), (eN i)] ++ (zs z 32 23 ++ (zs zf23 55 6 ++ (us 26 ++ (zs zf23 87 53)))))) ?_
   refine wpL.onis rfl rfl rfl (nb rfl) rfl (n_lss (a := i) (b := 20) rfl rfl (decide_eq_true k1)) ?_
   refine wI (d_pick (b := true) (v := (Value.bool true)) rfl rfl) ?_
   refine wF ([(zf23 0), u1, u2, (zf23 3), (zf23 4), (zf23 5), (zf23 6), (ptr g0 0), (eN dd), u_bad, (ptr se 0), (eN (seenN ls i)), (eN i), (z 13), undef, (zf23 15), undef, undef] ++ (zs zf23 18 8 ++ [(eN i), u1, (eN ls.length), (Value.bool true), (Value.bool true), (eN i), (Value.bool true), (Value.bool true)] ++ (zs z 34 21 ++ (zs zf23 55 6 ++ (us 26 ++ (zs zf23 87 53)))))) ?_
   refine wpL.done ?_
   refine then_n ?_
   refine cond_t rfl ?_
   refine wpIn_skip ?_
   refine then_n ?_
   refine forget (fun zf31 => ([(zf23 0), u1, u2, (zf23 3), (zf23 4), (zf23 5), (zf23 6), (ptr g0 0), (eN dd), u_bad, (ptr se 0), (eN (seenN ls i)), (eN i), (zf31 13), undef, (zf23 15), undef, undef] ++ (zs zf23 18 8 ++ (zs zf31 26 29 ++ (zs zf23 55 6 ++ (us 26 ++ (zs zf23 87 53))))))) (by kernel_rfl) (fun zf31 => ?_)
   refine wpIn_seq ?_
   refine wpIn_block ?_
   refine wpIn_seq ?_
   refine plain ?_
   refine wI (d_move rfl) ?_
   refine wI (d_move rfl) ?_
   refine wI (d_ix (i := i) (xs := ls) Try.underlying29 s_ti3 rfl h1 (show _ = Value.int _ ((i : Nat) : Int) from rfl) (by first | omega | (simp; done) | (simp; omega))) ?_
   refine wF ([(zf23 0), u1, u2, (zf23 3), (zf23 4), (zf23 5), (zf23 6), (ptr g0 0), (eN dd), u_bad, (ptr se 0), (eN (seenN ls i)), (eN i), (zf31 13), undef, (zf23 15), undef, undef] ++ (zs zf23 18 8 ++ (zs zf31 26 10 ++ [u1, (eN i), (ixp u1 i)] ++ (zs zf31 39 16 ++ (zs zf23 55 6 ++ (us 26 ++ (zs zf23 87 53))))))) ?_
   refine wI (d_ldx (i := i) (xs := ls) (enc := eI) (v := (ls.getD i 0)) ⟨_, Try.underlying3, rfl⟩ rfl h1 (g_at (by first | omega | (simp; done) | (simp; omega)))) ?_
   refine wO (d_call (xl := [.tmp 39, .const (.int .i64 12)]) (al := [(eI (ls.getD i 0)), (eN 12)]) Try.func16 (by kernel_rfl) rfl rfl rfl (law9Within_ok (ls.getD i 0) 12 _ (by omega) (by omega))) ?_
   rintro _ w32 ⟨rfl, o33⟩
   replace h1 := h1.step0 o33
   replace h2 := h2.step0 o33
   replace a19 := a19.step0 o33
   replace a27 := a27.step0 o33
   replace a24 := a24.step0 o33
   replace oW := oW.tail0 o33
   replace o29 := o29.tail0 o33
   refine wI (d_assign rfl) ?_
   refine wF ([(zf23 0), u1, u2, (zf23 3), (zf23 4), (zf23 5), (zf23 6), (ptr g0 0), (eN dd), u_bad, (ptr se 0), (eN (seenN ls i)), (eN i), (eN (((ls.getD i 0) % ((12 : Nat) : Int)).toNat)), undef, (zf23 15), undef, undef] ++ (zs zf23 18 8 ++ (zs zf31 26 10 ++ [u1, (eN i), (ixp u1 i), (eI (ls.getD i 0)), (eN (((ls.getD i 0) % ((12 : Nat) : Int)).toNat))] ++ (zs zf31 41 14 ++ (zs zf23 55 6 ++ (us 26 ++ (zs zf23 87 53))))))) ?_
   refine wpL.done ?_
   refine then_n ?_
   refine wpIn_seq ?_
   refine plain ?_
   refine wI (d_move rfl) ?_
   refine wI (d_move rfl) ?_
   refine wI (d_move rfl) ?_
   refine wF ([(zf23 0), u1, u2, (zf23 3), (zf23 4), (zf23 5), (zf23 6), (ptr g0 0), (eN dd), u_bad, (ptr se 0), (eN (seenN ls i)), (eN i), (eN (((ls.getD i 0) % ((12 : Nat) : Int)).toNat)), undef, (zf23 15), undef, undef] ++ (zs zf23 18 8 ++ (zs zf31 26 10 ++ [u1, (eN i), (ixp u1 i), (eI (ls.getD i 0)), (eN (((ls.getD i 0) % ((12 : Nat) : Int)).toNat)), u_bad, (eN dd), (eN (((ls.getD i 0) % ((12 : Nat) : Int)).toNat))] ++ (zs zf31 44 11 ++ (zs zf23 55 6 ++ (us 26 ++ (zs zf23 87 53))))))) ?_
   refine wI (d_buildA (zs := [(eN 0), (eN 0)]) (cs := [(eN dd), (eN (((ls.getD i 0) % ((12 : Nat) : Int)).toNat))]) Try.underlying53 s_ti53 s_ti3 rfl (parts_cons (vs := [(eN dd)]) (cells_of (v := (eN dd)) rfl rfl) (parts_cons (vs := [(eN (((ls.getD i 0) % ((12 : Nat) : Int)).toNat))]) (cells_of (v := (eN (((ls.getD i 0) % ((12 : Nat) : Int)).toNat))) rfl rfl) parts_nil)) rfl) ?_
   refine wO (d_buildL2 (zs := [(eN 0), (eN 0)]) (cs := [(eN dd), (eN (((ls.getD i 0) % ((12 : Nat) : Int)).toNat))]) Try.underlying42 s_ti53 made_one2 (nb rfl) (parts_cons (vs := [(eN dd), (eN (((ls.getD i 0) % ((12 : Nat) : Int)).toNat))]) (cells_of (v := (Value.agg #[(eN dd), (eN (((ls.getD i 0) % ((12 : Nat) : Int)).toNat))])) rfl rfl) parts_nil) rfl) ?_
   rintro _ w34 ⟨b1, rfl, g35, a36, o37⟩
   have n_g0_b1 : g0 ≠ b1 := a19.ne g35
   have n_se_b1 : se ≠ b1 := a27.ne g35
   have nq_bad_b1 : ∀ x, bo_bad = some x → ¬ x = b1 := fun x hx e => by have := a24.lts x hx; omega
   have g_oW_b1 : W.heap.size ≤ b1 := Nat.le_trans oW.size g35
   have g_o29_b1 : w25.heap.size ≤ b1 := Nat.le_trans o29.size g35
   replace h1 := h1.new o37 g35
   replace h2 := h2.new o37 g35
   replace a19 := a19.step0 o37
   replace a27 := a27.step0 o37
   replace a24 := a24.step0 o37
   replace oW := oW.tail0 o37
   replace o29 := o29.tail0 o37
   refine wO (d_append Try.underlying42 Try.underlying42 s_ti53 rfl rfl rfl a24 (SrcV.of_arr (n := 1) (sz := 2) a36 rfl (one_eQ [(((dd : Nat) : Int), ((((ls.getD i 0) % ((12 : Nat) : Int)).toNat : Nat) : Int))])) (by have := bdP_len dd ls i; omega) (by have := bdP_len dd ls i; omega) rfl) ?_
   rintro u38 w39 ⟨bo40, a41, o42, q43⟩
   replace a41 : Ow 53 2 bo40 u38 ((bdP dd ls i) ++ [(((dd : Nat) : Int), ((((ls.getD i 0) % ((12 : Nat) : Int)).toNat : Nat) : Int))]).length (((bdP dd ls i) ++ [(((dd : Nat) : Int), ((((ls.getD i 0) % ((12 : Nat) : Int)).toNat : Nat) : Int))]).flatMap eQ) w39 := ow_app2 (xs := bdP dd ls i) a41 rfl rfl
   replace h1 := h1.gr o42 (fun k e => (.inr (.inr (.inl e)))) (xx_or1 (xx_or1 (xx_re (Fr.of_or q43) (xx_or1 xx_id))))
   replace h2 := h2.gr o42 (fun k e => (.inr (.inr (.inl e)))) (xx_or1 (xx_or1 (xx_re (Fr.of_or q43) (xx_or1 xx_id))))
   have nq2 := nqs nq_bad_g0 (Fr.of_or q43) a19.lt
   replace a19 := a19.step o42 (fun e => nq_bad_g0 _ e rfl)
   replace nq_bad_g0 := nq2
   clear nq2
   have nq2 := nqs nq_bad_se (Fr.of_or q43) a27.lt
   replace a27 := a27.step o42 (fun e => nq_bad_se _ e rfl)
   replace nq_bad_se := nq2
   clear nq2
   have nq2 := nqs nq_bad_b1 (Fr.of_or q43) a36.lt
   replace a36 := a36.step o42 (fun e => nq_bad_b1 _ e rfl)
   replace nq_bad_b1 := nq2
   clear nq2
   have tq := oW.size
   replace oW := oW.tailr o42 q_oW_bad (fun _ e => by cases e)
   replace q_oW_bad := qtr (Fr.of_or q43) q_oW_bad tq
   clear tq
   have tq := o29.size
   replace o29 := o29.tailr o42 q_o29_bad (fun k e => (.inr (.inl e)))
   replace q_o29_bad := qtr (Fr.of_or q43) q_o29_bad tq
   clear tq
   refine wF ([(zf23 0), u1, u2, (zf23 3), (zf23 4), (zf23 5), (zf23 6), (ptr g0 0), (eN dd), u_bad, (ptr se 0), (eN (seenN ls i)), (eN i), (eN (((ls.getD i 0) % ((12 : Nat) : Int)).toNat)), undef, (zf23 15), undef, undef] ++ (zs zf23 18 8 ++ (zs zf31 26 10 ++ [u1, (eN i), (ixp u1 i), (eI (ls.getD i 0)), (eN (((ls.getD i 0) % ((12 : Nat) : Int)).toNat)), u_bad, (eN dd), (eN (((ls.getD i 0) % ((12 : Nat) : Int)).toNat)), (Value.agg #[(eN dd), (eN (((ls.getD i 0) % ((12 : Nat) : Int)).toNat))]), (sli b1 0 1 1), u38] ++ (zs zf31 47 8 ++ (zs zf23 55 6 ++ (us 26 ++ (zs zf23 87 53))))))) ?_
   refine wI (d_assign rfl) ?_
   refine wF ([(zf23 0), u1, u2, (zf23 3), (zf23 4), (zf23 5), (zf23 6), (ptr g0 0), (eN dd), u38, (ptr se 0), (eN (seenN ls i)), (eN i), (eN (((ls.getD i 0) % ((12 : Nat) : Int)).toNat)), undef, (zf23 15), undef, undef] ++ (zs zf23 18 8 ++ (zs zf31 26 10 ++ [u1, (eN i), (ixp u1 i), (eI (ls.getD i 0)), (eN (((ls.getD i 0) % ((12 : Nat) : Int)).toNat)), u_bad, (eN dd), (eN (((ls.getD i 0) % ((12 : Nat) : Int)).toNat)), (Value.agg #[(eN dd), (eN (((ls.getD i 0) % ((12 : Nat) : Int)).toNat))]), (sli b1 0 1 1), u38] ++ (zs zf31 47 8 ++ (zs zf23 55 6 ++ (us 26 ++ (zs zf23 87 53))))))) ?_
   refine wpL.done ?_
   refine then_n ?_
   refine forget (fun zf44 => ([(zf23 0), u1, u2, (zf23 3), (zf23 4), (zf23 5), (zf23 6), (ptr g0 0), (eN dd), u38, (ptr se 0), (eN (seenN ls i)), (eN i), (eN (((ls.getD i 0) % ((12 : Nat) : Int)).toNat)), undef, (zf23 15), undef, undef] ++ (zs zf23 18 8 ++ (zs zf44 26 29 ++ (zs zf23 55 6 ++ (us 26 ++ (zs zf23 87 53))))))) (by kernel_rfl) (fun zf44 => ?_)
   refine wpIn_seq ?_
   by_cases kc : (seenB ls i).getD (bdK ls i) false = true
   ·
    refine plain ?_
    refine wI (d_move rfl) ?_
    refine wI (d_indexArr1 (i := (((ls.getD i 0) % ((12 : Nat) : Int)).toNat)) Try.underlying56 s_ti4 rfl (show _ = Value.int _ ((((ls.getD i 0) % ((12 : Nat) : Int)).toNat : Nat) : Int) from rfl) (by first | exact bdK_lt ls i | (rw [l_se]; exact bdK_lt ls i) | omega)) ?_
    refine wI (dv_to (d_load ⟨_, Try.underlying4, rfl⟩ rfl a27 (m_at (d := false) (by rw [l_se]; exact bdK_lt ls i))) (congrArg Value.bool kc)) ?_
    refine wF ([(zf23 0), u1, u2, (zf23 3), (zf23 4), (zf23 5), (zf23 6), (ptr g0 0), (eN dd), u38, (ptr se 0), (eN (seenN ls i)), (eN i), (eN (((ls.getD i 0) % ((12 : Nat) : Int)).toNat)), undef, (zf23 15), undef, undef] ++ (zs zf23 18 8 ++ (zs zf44 26 21 ++ [(eN (((ls.getD i 0) % ((12 : Nat) : Int)).toNat)), (ptr se (((ls.getD i 0) % ((12 : Nat) : Int)).toNat)), (Value.bool true)] ++ (zs zf44 50 5 ++ (zs zf23 55 6 ++ (us 26 ++ (zs zf23 87 53))))))) ?_
    refine wI (d_not rfl rfl) ?_
    refine wF ([(zf23 0), u1, u2, (zf23 3), (zf23 4), (zf23 5), (zf23 6), (ptr g0 0), (eN dd), u38, (ptr se 0), (eN (seenN ls i)), (eN i), (eN (((ls.getD i 0) % ((12 : Nat) : Int)).toNat)), undef, (zf23 15), undef, undef] ++ (zs zf23 18 8 ++ (zs zf44 26 21 ++ [(eN (((ls.getD i 0) % ((12 : Nat) : Int)).toNat)), (ptr se (((ls.getD i 0) % ((12 : Nat) : Int)).toNat)), (Value.bool true), (Value.bool false), (zf44 51), (zf44 52), (zf44 53), (zf44 54)] ++ (zs zf23 55 6 ++ (us 26 ++ (zs zf23 87 53)))))) ?_
    refine wpL.done ?_
    refine then_n ?_
    refine cond_f rfl ?_
    refine wpIn_skip ?_
    refine inb_n (then_n ?_)
    refine plain ?_
    refine wI (d_move rfl) ?_
    refine wI (n_add (a := i) (b := 1) rfl rfl (by omega)) ?_
    refine wI (d_assign rfl) ?_
    refine wF ([(zf23 0), u1, u2, (zf23 3), (zf23 4), (zf23 5), (zf23 6), (ptr g0 0), (eN dd), u38, (ptr se 0), (eN (seenN ls i)), (eN (i + 1)), (eN (((ls.getD i 0) % ((12 : Nat) : Int)).toNat)), undef, (zf23 15), undef, undef] ++ (zs zf23 18 8 ++ (zs zf44 26 8 ++ [(eN i), (eN (i + 1))] ++ (zs zf44 36 11 ++ [(eN (((ls.getD i 0) % ((12 : Nat) : Int)).toNat)), (ptr se (((ls.getD i 0) % ((12 : Nat) : Int)).toNat)), (Value.bool true), (Value.bool false), (zf44 51), (zf44 52), (zf44 53), (zf44 54)] ++ (zs zf23 55 6 ++ (us 26 ++ (zs zf23 87 53))))))) ?_
    refine wpL.done ?_
    refine then_n ?_
    refine ⟨([(zf23 0), u1, u2, (zf23 3), (zf23 4), (zf23 5), (zf23 6), (ptr g0 0), (eN dd), u38, (ptr se 0), (eN (seenN ls (i + 1))), (eN (i + 1)), (eN (((ls.getD i 0) % ((12 : Nat) : Int)).toNat)), undef, (zf23 15), undef, undef] ++ (zs zf23 18 8 ++ (zs zf44 26 8 ++ [(eN i), (eN (i + 1))] ++ (zs zf44 36 11 ++ [(eN (((ls.getD i 0) % ((12 : Nat) : Int)).toNat)), (ptr se (((ls.getD i 0) % ((12 : Nat) : Int)).toNat)), (Value.bool true), (Value.bool false), (zf44 51), (zf44 52), (zf44 53), (zf44 54)] ++ (zs zf23 55 6 ++ (us 26 ++ (zs zf23 87 53))))))), ⟨i + 1, bo40, u38⟩, (congrArg (fun l_ => fr l_ _) (show (([(zf23 0), u1, u2, (zf23 3), (zf23 4), (zf23 5), (zf23 6), (ptr g0 0), (eN dd), u38, (ptr se 0), (eN (seenN ls i)), (eN (i + 1)), (eN (((ls.getD i 0) % ((12 : Nat) : Int)).toNat)), undef, (zf23 15), undef, undef] ++ (zs zf23 18 8 ++ (zs zf44 26 8 ++ [(eN i), (eN (i + 1))] ++ (zs zf44 36 11 ++ [(eN (((ls.getD i 0) % ((12 : Nat) : Int)).toNat)), (ptr se (((ls.getD i 0) % ((12 : Nat) : Int)).toNat)), (Value.bool true), (Value.bool false), (zf44 51), (zf44 52), (zf44 53), (zf44 54)] ++ (zs zf23 55 6 ++ (us 26 ++ (zs zf23 87 53))))))) : List Value) = ([(zf23 0), u1, u2, (zf23 3), (zf23 4), (zf23 5), (zf23 6), (ptr g0 0), (eN dd), u38, (ptr se 0), (eN (seenN ls (i + 1))), (eN (i + 1)), (eN (((ls.getD i 0) % ((12 : Nat) : Int)).toNat)), undef, (zf23 15), undef, undef] ++ (zs zf23 18 8 ++ (zs zf44 26 8 ++ [(eN i), (eN (i + 1))] ++ (zs zf44 36 11 ++ [(eN (((ls.getD i 0) % ((12 : Nat) : Int)).toNat)), (ptr se (((ls.getD i 0) % ((12 : Nat) : Int)).toNat)), (Value.bool true), (Value.bool false), (zf44 51), (zf44 52), (zf44 53), (zf44 54)] ++ (zs zf23 55 6 ++ (us 26 ++ (zs zf23 87 53))))))) from reslot ([(zf23 0), u1, u2, (zf23 3), (zf23 4), (zf23 5), (zf23 6), (ptr g0 0), (eN dd), u38, (ptr se 0), (eN (seenN ls i)), (eN (i + 1)), (eN (((ls.getD i 0) % ((12 : Nat) : Int)).toNat)), undef, (zf23 15), undef, undef] ++ (zs zf23 18 8 ++ (zs zf44 26 8 ++ [(eN i), (eN (i + 1))] ++ (zs zf44 36 11 ++ [(eN (((ls.getD i 0) % ((12 : Nat) : Int)).toNat)), (ptr se (((ls.getD i 0) % ((12 : Nat) : Int)).toNat)), (Value.bool true), (Value.bool false), (zf44 51), (zf44 52), (zf44 53), (zf44 54)] ++ (zs zf23 55 6 ++ (us 26 ++ (zs zf23 87 53))))))) 11 (congrArg eN (seenN_same kc)))), rfl, ⟨?_, ?_, ?_, ?_, ?_, ?_, ?_⟩, ?_⟩
    ·
     (try dsimp only)
     all_goals (omega)
    ·
     exact o29
    ·
     exact a19
    ·
     exact seenB_len _ _
    ·
     (try dsimp only)
     all_goals (rw [← seen_same kc]; exact a27)
    ·
     (try dsimp only)
     all_goals (rw [← bdP_next]; exact a41)
    ·
     exact q_o29_bad
    ·
     (try dsimp only)
     all_goals (omega)
   refine plain ?_
   refine wI (d_move rfl) ?_
   refine wI (d_indexArr1 (i := (((ls.getD i 0) % ((12 : Nat) : Int)).toNat)) Try.underlying56 s_ti4 rfl (show _ = Value.int _ ((((ls.getD i 0) % ((12 : Nat) : Int)).toNat : Nat) : Int) from rfl) (by first | exact bdK_lt ls i | (rw [l_se]; exact bdK_lt ls i) | omega)) ?_
   refine wI (dv_to (d_load ⟨_, Try.underlying4, rfl⟩ rfl a27 (m_at (d := false) (by rw [l_se]; exact bdK_lt ls i))) (congrArg Value.bool (Bool.eq_false_iff.2 kc))) ?_
   refine wF ([(zf23 0), u1, u2, (zf23 3), (zf23 4), (zf23 5), (zf23 6), (ptr g0 0), (eN dd), u38, (ptr se 0), (eN (seenN ls i)), (eN i), (eN (((ls.getD i 0) % ((12 : Nat) : Int)).toNat)), undef, (zf23 15), undef, undef] ++ (zs zf23 18 8 ++ (zs zf44 26 21 ++ [(eN (((ls.getD i 0) % ((12 : Nat) : Int)).toNat)), (ptr se (((ls.getD i 0) % ((12 : Nat) : Int)).toNat)), (Value.bool false)] ++ (zs zf44 50 5 ++ (zs zf23 55 6 ++ (us 26 ++ (zs zf23 87 53))))))) ?_
   refine wI (d_not rfl rfl) ?_
   refine wF ([(zf23 0), u1, u2, (zf23 3), (zf23 4), (zf23 5), (zf23 6), (ptr g0 0), (eN dd), u38, (ptr se 0), (eN (seenN ls i)), (eN i), (eN (((ls.getD i 0) % ((12 : Nat) : Int)).toNat)), undef, (zf23 15), undef, undef] ++ (zs zf23 18 8 ++ (zs zf44 26 21 ++ [(eN (((ls.getD i 0) % ((12 : Nat) : Int)).toNat)), (ptr se (((ls.getD i 0) % ((12 : Nat) : Int)).toNat)), (Value.bool false), (Value.bool true), (zf44 51), (zf44 52), (zf44 53), (zf44 54)] ++ (zs zf23 55 6 ++ (us 26 ++ (zs zf23 87 53)))))) ?_
   refine wpL.done ?_
   refine then_n ?_
   refine cond_t rfl ?_
   refine wpIn_seq ?_
   refine plain ?_
   refine wI (d_move rfl) ?_
   refine wI (d_indexArr1 (i := (((ls.getD i 0) % ((12 : Nat) : Int)).toNat)) Try.underlying56 s_ti4 rfl (show _ = Value.int _ ((((ls.getD i 0) % ((12 : Nat) : Int)).toNat : Nat) : Int) from rfl) (by first | exact bdK_lt ls i | omega)) ?_
   refine wO (d_store (b := se) (i := (((ls.getD i 0) % ((12 : Nat) : Int)).toNat)) (v := (Value.bool true)) s_ti4 rfl rfl rfl a27 (by rw [List.length_map, l_se]; exact bdK_lt ls i) (m_put (seenB ls i) (((ls.getD i 0) % ((12 : Nat) : Int)).toNat) true eT)) ?_
   rintro _ w45 ⟨a46, o47⟩
   replace h1 := h1.stepb o47 (in2 in1)
   replace h2 := h2.stepb o47 (in2 in1)
   replace a19 := a19.step o47 (fun e => absurd e n_g0_se)
   replace a36 := a36.step o47 (fun e => absurd e (Ne.symm n_se_b1))
   replace a41 := a41.step o47 (fun x hx e => nq_bad_se x hx e)
   replace oW := oW.tailb o47 g_oW_se
   replace o29 := o29.tail o47 (fun k _ e => by have : k = se := e; rw [this]; exact in1)
   replace l_se : ((seenB ls i).set (((ls.getD i 0) % ((12 : Nat) : Int)).toNat) true : List Bool).length = 12 := (List.length_set ..).trans l_se
   refine wF ([(zf23 0), u1, u2, (zf23 3), (zf23 4), (zf23 5), (zf23 6), (ptr g0 0), (eN dd), u38, (ptr se 0), (eN (seenN ls i)), (eN i), (eN (((ls.getD i 0) % ((12 : Nat) : Int)).toNat)), undef, (zf23 15), undef, undef] ++ (zs zf23 18 8 ++ (zs zf44 26 21 ++ [(eN (((ls.getD i 0) % ((12 : Nat) : Int)).toNat)), (ptr se (((ls.getD i 0) % ((12 : Nat) : Int)).toNat)), (Value.bool false), (Value.bool true), (eN (((ls.getD i 0) % ((12 : Nat) : Int)).toNat)), (ptr se (((ls.getD i 0) % ((12 : Nat) : Int)).toNat)), (zf44 53), (zf44 54)] ++ (zs zf23 55 6 ++ (us 26 ++ (zs zf23 87 53)))))) ?_
   refine wpL.done ?_
   refine then_n ?_
   have sl := seenN_le ls i
   refine plain ?_
   refine wI (d_move rfl) ?_
   refine wI (n_add (a := (seenN ls i)) (b := 1) rfl rfl (by omega)) ?_
   refine wI (d_assign rfl) ?_
   refine wF ([(zf23 0), u1, u2, (zf23 3), (zf23 4), (zf23 5), (zf23 6), (ptr g0 0), (eN dd), u38, (ptr se 0), (eN (seenN ls i + 1)), (eN i), (eN (((ls.getD i 0) % ((12 : Nat) : Int)).toNat)), undef, (zf23 15), undef, undef] ++ (zs zf23 18 8 ++ (zs zf44 26 21 ++ [(eN (((ls.getD i 0) % ((12 : Nat) : Int)).toNat)), (ptr se (((ls.getD i 0) % ((12 : Nat) : Int)).toNat)), (Value.bool false), (Value.bool true), (eN (((ls.getD i 0) % ((12 : Nat) : Int)).toNat)), (ptr se (((ls.getD i 0) % ((12 : Nat) : Int)).toNat)), (eN (seenN ls i)), (eN (seenN ls i + 1))] ++ (zs zf23 55 6 ++ (us 26 ++ (zs zf23 87 53)))))) ?_
   refine wpL.done ?_
   refine inb_n (then_n ?_)
   refine forget (fun zf48 => ([(zf23 0), u1, u2, (zf23 3), (zf23 4), (zf23 5), (zf23 6), (ptr g0 0), (eN dd), u38, (ptr se 0), (eN (seenN ls i + 1)), (eN i), (zf48 13), undef, (zf23 15), undef, undef] ++ (zs zf23 18 8 ++ (zs zf48 26 29 ++ (zs zf23 55 6 ++ (us 26 ++ (zs zf23 87 53))))))) (by kernel_rfl) (fun zf48 => ?_)
   refine plain ?_
   refine wI (d_move rfl) ?_
   refine wI (n_add (a := i) (b := 1) rfl rfl (by omega)) ?_
   refine wI (d_assign rfl) ?_
   refine wF ([(zf23 0), u1, u2, (zf23 3), (zf23 4), (zf23 5), (zf23 6), (ptr g0 0), (eN dd), u38, (ptr se 0), (eN (seenN ls i + 1)), (eN (i + 1)), (zf48 13), undef, (zf23 15), undef, undef] ++ (zs zf23 18 8 ++ (zs zf48 26 8 ++ [(eN i), (eN (i + 1))] ++ (zs zf48 36 19 ++ (zs zf23 55 6 ++ (us 26 ++ (zs zf23 87 53))))))) ?_
   refine wpL.done ?_
   refine then_n ?_
   refine ⟨([(zf23 0), u1, u2, (zf23 3), (zf23 4), (zf23 5), (zf23 6), (ptr g0 0), (eN dd), u38, (ptr se 0), (eN (seenN ls (i + 1))), (eN (i + 1)), (zf48 13), undef, (zf23 15), undef, undef] ++ (zs zf23 18 8 ++ (zs zf48 26 8 ++ [(eN i), (eN (i + 1))] ++ (zs zf48 36 19 ++ (zs zf23 55 6 ++ (us 26 ++ (zs zf23 87 53))))))), ⟨i + 1, bo40, u38⟩, (congrArg (fun l_ => fr l_ _) (show (([(zf23 0), u1, u2, (zf23 3), (zf23 4), (zf23 5), (zf23 6), (ptr g0 0), (eN dd), u38, (ptr se 0), (eN (seenN ls i + 1)), (eN (i + 1)), (zf48 13), undef, (zf23 15), undef, undef] ++ (zs zf23 18 8 ++ (zs zf48 26 8 ++ [(eN i), (eN (i + 1))] ++ (zs zf48 36 19 ++ (zs zf23 55 6 ++ (us 26 ++ (zs zf23 87 53))))))) : List Value) = ([(zf23 0), u1, u2, (zf23 3), (zf23 4), (zf23 5), (zf23 6), (ptr g0 0), (eN dd), u38, (ptr se 0), (eN (seenN ls (i + 1))), (eN (i + 1)), (zf48 13), undef, (zf23 15), undef, undef] ++ (zs zf23 18 8 ++ (zs zf48 26 8 ++ [(eN i), (eN (i + 1))] ++ (zs zf48 36 19 ++ (zs zf23 55 6 ++ (us 26 ++ (zs zf23 87 53))))))) from reslot ([(zf23 0), u1, u2, (zf23 3), (zf23 4), (zf23 5), (zf23 6), (ptr g0 0), (eN dd), u38, (ptr se 0), (eN (seenN ls i + 1)), (eN (i + 1)), (zf48 13), undef, (zf23 15), undef, undef] ++ (zs zf23 18 8 ++ (zs zf48 26 8 ++ [(eN i), (eN (i + 1))] ++ (zs zf48 36 19 ++ (zs zf23 55 6 ++ (us 26 ++ (zs zf23 87 53))))))) 11 (congrArg eN (seenN_next kc)))), rfl, ⟨?_, ?_, ?_, ?_, ?_, ?_, ?_⟩, ?_⟩
   ·
    (try dsimp only)
    all_goals (omega)
   ·
    exact o29
   ·
    exact a19
   ·
    exact seenB_len _ _
   ·
    exact a46
   ·
    (try dsimp only)
    all_goals (rw [← bdP_next]; exact a41)
   ·
    exact q_o29_bad
   ·
    (try dsimp only)
    all_goals (omega)
  refine plain ?_
  refine wI (d_move rfl) ?_
  refine wI (d_move rfl) ?_
  refine wI (d_lenS rfl Try.underlying29 rfl h1) ?_
  refine wF ([(zf23 0), u1, u2, (zf23 3), (zf23 4), (zf23 5), (zf23 6), (ptr g0 0), (eN dd), u_bad, (ptr se 0), (eN (seenN ls i)), (eN i), (z 13), undef, (zf23 15), undef, undef] ++ (zs zf23 18 8 ++ [(eN i), u1, (eN ls.length)] ++ (zs z 29 26 ++ (zs zf23 55 6 ++ (us 26 ++ (zs zf23 87 53)))))) ?_
  refine wI (n_lss (a := i) (b := ls.length) rfl rfl (decide_eq_true k0)) ?_
  refine wI (d_move rfl) ?_
  refine wpL.onis rfl rfl rfl (nb rfl) rfl (d_move rfl) ?_
  refine wF ([(zf23 0), u1, u2, (zf23 3), (zf23 4), (zf23 5), (zf23 6), (ptr g0 0), (eN dd), u_bad, (ptr se 0), (eN (seenN ls i)), (eN i), (z 13), undef, (zf23 15), undef, undef] ++ (zs zf23 18 8 ++ [(eN i), u1, (eN ls.length), (Value.bool true), (Value.bool true), (eN i)] ++ (zs z 32 23 ++ (zs zf23 55 6 ++ (us 26 ++ (zs zf23 87 53)))))) ?_
  refine wpL.onis rfl rfl rfl (nb rfl) rfl (n_lss (a := i) (b := 20) rfl rfl (decide_eq_false k1)) ?_
  refine wI (d_pick (b := true) (v := (Value.bool false)) rfl rfl) ?_
  refine wF ([(zf23 0), u1, u2, (zf23 3), (zf23 4), (zf23 5), (zf23 6), (ptr g0 0), (eN dd), u_bad, (ptr se 0), (eN (seenN ls i)), (eN i), (z 13), undef, (zf23 15), undef, undef] ++ (zs zf23 18 8 ++ [(eN i), u1, (eN ls.length), (Value.bool true), (Value.bool true), (eN i), (Value.bool false), (Value.bool false)] ++ (zs z 34 21 ++ (zs zf23 55 6 ++ (us 26 ++ (zs zf23 87 53)))))) ?_
  refine wpL.done ?_
  refine then_n ?_
  refine cond_f rfl ?_
  refine wpIn_exit ?_
  refine then_x (then_x (inb_e ?_))
  refine then_n ?_
  refine forget (fun zf49 => ([(zf49 0), (zf49 1), u2, (zf49 3), (zf49 4), (zf49 5), (zf49 6), (ptr g0 0), (eN dd), u_bad, (ptr se 0), (eN (seenN ls i)), (eN i), (zf49 13), undef, (zf49 15), undef, undef] ++ (zs zf49 18 43 ++ (us 26 ++ (zs zf49 87 53))))) (by kernel_rfl) (fun zf49 => ?_)
  refine wpIn_seq ?_
  refine wpIn_seq ?_
  refine plain ?_
  refine wI (d_assign rfl) ?_
  refine wF ([(zf49 0), (zf49 1), u2, (zf49 3), (zf49 4), (zf49 5), (zf49 6), (ptr g0 0), (eN dd), u_bad, (ptr se 0), (eN (seenN ls i)), (eN i), (zf49 13), (eN 0), (zf49 15), undef, undef] ++ (zs zf49 18 43 ++ (us 26 ++ (zs zf49 87 53)))) ?_
  refine wpL.done ?_
  refine then_n ?_
  refine wpIn_block ?_
  have h_lt_g0 := a19.lt
  have h_lt_se := a27.lt
  have h_lts_bad := a24.lts
  refine loop2 (fun (s_ : (Nat) × (Option Nat) × (Value)) => match s_ with | ⟨j, bo_bad2, u_bad2⟩ => fun (z : Nat → Value) => (([(zf49 0), (zf49 1), u2, (zf49 3), (zf49 4), (zf49 5), (zf49 6), (ptr g0 0), (eN dd), u_bad2, (ptr se 0), (eN (seenN ls i)), (eN i), (zf49 13), (eN j), (zf49 15), undef, undef] ++ (zs zf49 18 37 ++ (zs z 55 32 ++ (zs zf49 87 53)))) : List Value)) (fun (s_ : (Nat) × (Option Nat) × (Value)) => match s_ with | ⟨j, bo_bad2, u_bad2⟩ => fun (w_ : World) => (j ≤ ns.length) ∧ Only (Or1 se (Orq bo_bad (Or1 g0 No))) w30 w_ ∧ Arr 25 g0 [(eN 6), (eN 12), (eN 4)] w_ ∧ Arr 56 se ((seenB ls i).map eT) w_ ∧ Ow 53 2 bo_bad2 u_bad2 ((badB dd ls ns i j)).length (((badB dd ls ns i j)).flatMap eQ) w_ ∧ Fr bo_bad2 bo_bad w30.heap.size) (fun (s_ : (Nat) × (Option Nat) × (Value)) => match s_ with | ⟨j, bo_bad2, u_bad2⟩ => ns.length - j) ⟨0, bo_bad, u_bad⟩ rfl ?_ ?_
  ·
   refine ⟨?_, ?_, ?_, ?_, ?_, ?_⟩
   ·
    exact Nat.zero_le _
   ·
    exact Only.refl _ _
   ·
    exact a19
   ·
    exact a27
   ·
    (try dsimp only)
    all_goals (rw [← badB_zero]; exact a24)
   ·
    exact Fr.same
  rintro ⟨j, bo_bad2, u_bad2⟩ z w51 ⟨hj, o50, a19, a27, a24, qq_bad⟩
  (try dsimp only)
  replace h1 := h1.re o50 (or1_mono (orq_mono (or1_mono no_any))) (xx_or1 (xx_re qq_bad (xx_or1 xx_id)))
  replace h2 := h2.re o50 (or1_mono (orq_mono (or1_mono no_any))) (xx_or1 (xx_re qq_bad (xx_or1 xx_id)))
  have tq_oW := oW.size
  replace oW := oW.tail o50 (tl_new g_oW_se (tl_q q_oW_bad (fun _ e => by cases e) (tl_new g_oW_g0 tl_no)))
  replace q_oW_bad := qtr qq_bad q_oW_bad tq_oW
  have tq_o29 := o29.size
  replace o29 := o29.tail o50 (tl_in in1 (tl_q q_o29_bad (fun k e => (.inr (.inl e))) (tl_in (in2 (inq in1)) tl_no)))
  replace q_o29_bad := qtr qq_bad q_o29_bad tq_o29
  replace nq_bad_g0 := nqs nq_bad_g0 qq_bad h_lt_g0
  replace nq_bad_se := nqs nq_bad_se qq_bad h_lt_se
  have q_o50_bad := qq_bad
  refine wpIn_seq ?_
  refine wpIn_seq ?_
  refine plain ?_
  refine wI (d_move rfl) ?_
  refine wI (d_move rfl) ?_
  refine wI (d_lenS rfl Try.underlying42 rfl h2) ?_
  refine wF ([(zf49 0), (zf49 1), u2, (zf49 3), (zf49 4), (zf49 5), (zf49 6), (ptr g0 0), (eN dd), u_bad2, (ptr se 0), (eN (seenN ls i)), (eN i), (zf49 13), (eN j), (zf49 15), undef, undef] ++ (zs zf49 18 37 ++ [(eN j), u2, (eN ns.length)] ++ (zs z 58 29 ++ (zs zf49 87 53)))) ?_
  refine wI (n_lss (a := j) (b := ns.length) rfl rfl rfl) ?_
  refine wF ([(zf49 0), (zf49 1), u2, (zf49 3), (zf49 4), (zf49 5), (zf49 6), (ptr g0 0), (eN dd), u_bad2, (ptr se 0), (eN (seenN ls i)), (eN i), (zf49 13), (eN j), (zf49 15), undef, undef] ++ (zs zf49 18 37 ++ [(eN j), u2, (eN ns.length), (Value.bool (decide (j < ns.length)))] ++ (zs z 59 28 ++ (zs zf49 87 53)))) ?_
  refine wpL.done ?_
  refine then_n ?_
  refine cond_if rfl (fun c52 => ?_) (fun c52 => ?_)
  ·
   refine wpIn_skip ?_
   refine then_n ?_
   refine wpIn_seq ?_
   refine wpIn_block ?_
   have hX0_ : ∀ k, (Or1 se (Orq bo_bad2 (Or1 g0 (Old W.heap.size)))) k → k < w51.heap.size := (lt_or1 a27.lt (lt_orq a24.lts (lt_or1 a19.lt (fun k t => Nat.lt_of_lt_of_le t oW.size))))
   have hO0_ : ∀ k, (Or1 se (Orq bo_bad2 (Or1 g0 No))) k → k < w51.heap.size := fun k h => hX0_ k ((or1_mono (orq_mono (or1_mono no_any))) k h)
   refine drawnT (O := (Or1 se (Orq bo_bad2 (Or1 g0 No)))) (n := 27) 25 [0, 0, 0, 6, 14, 30, 62, 126, 0, 0, 768, 1792, 3840, 8190, 0, 0, 0, 98304, 229376, 491520, 1015934, 2064510, 4178046, 0, 16777214, 33554431, 67108863] [(0, 61), (1, 62), (2, 63), (3, 64), (4, 65), (5, 66), (6, 67), (7, 68), (8, 69), (9, 70), (10, 71), (11, 72), (12, 73), (13, 74), (14, 75), (15, 76), (16, 77), (17, 78), (18, 79), (19, 80), (20, 81), (21, 82), (22, 83), (23, 84), (24, 85), (25, 86), (26, 9)] [(0, 61), (1, 62), (2, 63), (3, 64), (4, 65), (5, 66), (6, 67), (7, 68), (8, 69), (9, 70), (10, 71), (11, 72), (12, 73), (13, 74), (14, 75), (15, 76), (16, 77), (17, 78), (18, 79), (19, 80), (20, 81), (21, 82), (22, 83), (23, 84), (24, 85)] [0, 1, 2, 3, 4, 5, 6, 7, 8, 9, 10, 11, 12, 13, 14, 15, 16, 17, 18, 19, 20, 21, 22, 23, 24] [] (fun i_ => ([RF.is (Or1 se (Orq bo_bad2 (Or1 g0 No))) u_bad2, RF.is (Or1 se (Orq bo_bad2 (Or1 g0 No))) u2, RF.is (Or1 se (Orq bo_bad2 (Or1 g0 No))) (eN j), RF.ps (Or1 se (Orq bo_bad2 (Or1 g0 No))) (Or1 se (Orq bo_bad2 (Or1 g0 No))) (At (kA 2 eQ) (ns.getD j (0, 0))) (or1_mono (orq_mono (or1_mono no_any))), RF.ps (Or1 se (Orq bo_bad2 (Or1 g0 No))) (Or1 se (Orq bo_bad2 (Or1 g0 No))) (At kI ((ns.getD j (0, 0)).1)) (or1_mono (orq_mono (or1_mono no_any))), RF.is (Or1 se (Orq bo_bad2 (Or1 g0 No))) (eI ((ns.getD j (0, 0)).1)), RF.is (Or1 se (Orq bo_bad2 (Or1 g0 No))) (eN ((((ns.getD j (0, 0)).1) % ((9 : Nat) : Int)).toNat)), RF.is (Or1 se (Orq bo_bad2 (Or1 g0 No))) (eN (6 + ((((ns.getD j (0, 0)).1) % ((9 : Nat) : Int)).toNat))), RF.is (Or1 se (Orq bo_bad2 (Or1 g0 No))) u2, RF.is (Or1 se (Orq bo_bad2 (Or1 g0 No))) (eN j), RF.ps (Or1 se (Orq bo_bad2 (Or1 g0 No))) (Or1 se (Orq bo_bad2 (Or1 g0 No))) (At (kA 2 eQ) (ns.getD j (0, 0))) (or1_mono (orq_mono (or1_mono no_any))), RF.ps (Or1 se (Orq bo_bad2 (Or1 g0 No))) (Or1 se (Orq bo_bad2 (Or1 g0 No))) (At kI ((ns.getD j (0, 0)).2)) (or1_mono (orq_mono (or1_mono no_any))), RF.is (Or1 se (Orq bo_bad2 (Or1 g0 No))) (eI ((ns.getD j (0, 0)).2)), RF.is (Or1 se (Orq bo_bad2 (Or1 g0 No))) (Value.agg #[(eN (6 + ((((ns.getD j (0, 0)).1) % ((9 : Nat) : Int)).toNat))), (eI ((ns.getD j (0, 0)).2))]), RF.is (Or1 se (Orq bo_bad2 (Or1 g0 No))) (eN dd), RF.is (Or1 se (Orq bo_bad2 (Or1 g0 No))) u2, RF.is (Or1 se (Orq bo_bad2 (Or1 g0 No))) (eN j), RF.ps (Or1 se (Orq bo_bad2 (Or1 g0 No))) (Or1 se (Orq bo_bad2 (Or1 g0 No))) (At (kA 2 eQ) (ns.getD j (0, 0))) (or1_mono (orq_mono (or1_mono no_any))), RF.ps (Or1 se (Orq bo_bad2 (Or1 g0 No))) (Or1 se (Orq bo_bad2 (Or1 g0 No))) (At kI ((ns.getD j (0, 0)).2)) (or1_mono (orq_mono (or1_mono no_any))), RF.is (Or1 se (Orq bo_bad2 (Or1 g0 No))) (eI ((ns.getD j (0, 0)).2)), RF.is (Or1 se (Orq bo_bad2 (Or1 g0 No))) (eN ((((ns.getD j (0, 0)).2) % ((9 : Nat) : Int)).toNat)), RF.is (Or1 se (Orq bo_bad2 (Or1 g0 No))) (eN (12 + ((((ns.getD j (0, 0)).2) % ((9 : Nat) : Int)).toNat))), RF.is (Or1 se (Orq bo_bad2 (Or1 g0 No))) (Value.agg #[(eN dd), (eN (12 + ((((ns.getD j (0, 0)).2) % ((9 : Nat) : Int)).toNat)))]), RF.is (Or1 se (Orq bo_bad2 (Or1 g0 No))) (Value.agg #[(eI (-1)), (eN 0)]), RF.mk_ (Or1 se (Orq bo_bad2 (Or1 g0 No))) (fun b_ => (sli b_ 0 3 3)) 53 [(eN (6 + ((((ns.getD j (0, 0)).1) % ((9 : Nat) : Int)).toNat))), (eI ((ns.getD j (0, 0)).2)), (eN dd), (eN (12 + ((((ns.getD j (0, 0)).2) % ((9 : Nat) : Int)).toNat))), (eI (-1)), (eN 0)] w51.heap.size hO0_] : List (RF (Or1 se (Orq bo_bad2 (Or1 g0 No))))).getD i_ (RF.any (Or1 se (Orq bo_bad2 (Or1 g0 No))))) (fun _ w_ => Arr 25 g0 [(eN 6), (eN 12), (eN 4)] w_ ∧ Arr 56 se ((seenB ls i).map eT) w_ ∧ Ow 53 2 bo_bad2 u_bad2 ((badB dd ls ns i j)).length (((badB dd ls ns i j)).flatMap eQ) w_) (fun v53 => ([(zf49 0), (zf49 1), u2, (zf49 3), (zf49 4), (zf49 5), (zf49 6), (ptr g0 0), (eN dd), (v53 26), (ptr se 0), (eN (seenN ls i)), (eN i), (zf49 13), (eN j), (zf49 15), undef, undef] ++ (zs zf49 18 37 ++ [(eN j), u2, (eN ns.length), (Value.bool (decide (j < ns.length))), (z 59), (z 60), (v53 0), (v53 1), (v53 2), (v53 3), (v53 4), (v53 5), (v53 6), (v53 7), (v53 8), (v53 9), (v53 10), (v53 11), (v53 12), (v53 13), (v53 14), (v53 15), (v53 16), (v53 17), (v53 18), (v53 19), (v53 20), (v53 21), (v53 22), (v53 23), (v53 24), (v53 25)] ++ (zs zf49 87 53)))) (fun v53 => ([(zf49 0), (zf49 1), u2, (zf49 3), (zf49 4), (zf49 5), (zf49 6), (ptr g0 0), (eN dd), u_bad2, (ptr se 0), (eN (seenN ls i)), (eN i), (zf49 13), (eN j), (zf49 15), undef, undef] ++ (zs zf49 18 37 ++ [(eN j), u2, (eN ns.length), (Value.bool (decide (j < ns.length))), (z 59), (z 60), (v53 0), (v53 1), (v53 2), (v53 3), (v53 4), (v53 5), (v53 6), (v53 7), (v53 8), (v53 9), (v53 10), (v53 11), (v53 12), (v53 13), (v53 14), (v53 15), (v53 16), (v53 17), (v53 18), (v53 19), (v53 20), (v53 21), (v53 22), (v53 23), (v53 24), (z 86)] ++ (zs zf49 87 53)))) s_mx (by kernel_rfl) rfl (by decide) (by rfl) (by kernel_rfl) (by kernel_rfl) (by kernel_rfl) (by rfl) (fun v_ => by kernel_rfl) (fun v_ => by kernel_rfl) (fun _ => fun w_ w2_ h ho => by obtain ⟨r_a19, r_a27, r_a24⟩ := h; exact ⟨r_a19.step0 ho, r_a27.step0 ho, r_a24.step0 ho⟩) ⟨a19, a27, a24⟩ ?_ ?_ ?_
   ·
    refine ls_cons ?_ ?_
    ·
     intro v53 lo hi w_ k_ hO hd _ _ hk_ _ hR hold
     obtain ⟨r_a19, r_a27, r_a24⟩ := hR
     have eo26 : v53 26 = u_bad2 := hold (26, 9) (by decide) (by kernel_rfl)
     clear hd hold
     refine ⟨_, rfl, gd rfl ?_⟩
     exact Does.is (d_move (v := u_bad2) eo26)
    refine ls_cons ?_ ?_
    ·
     intro v53 lo hi w_ k_ hO hd _ _ hk_ _ hR hold
     obtain ⟨r_a19, r_a27, r_a24⟩ := hR
     clear hd hold
     refine ⟨_, rfl, gd rfl ?_⟩
     exact Does.is (d_move rfl)
    refine ls_cons ?_ ?_
    ·
     intro v53 lo hi w_ k_ hO hd _ _ hk_ _ hR hold
     obtain ⟨r_a19, r_a27, r_a24⟩ := hR
     clear hd hold
     refine ⟨_, rfl, gd rfl ?_⟩
     exact Does.is (d_move rfl)
    refine ls_cons ?_ ?_
    ·
     intro v53 lo hi w_ k_ hO hd _ _ hk_ _ hR hold
     obtain ⟨r_a19, r_a27, r_a24⟩ := hR
     have e1 : v53 1 = u2 := hd 1 (by kernel_rfl)
     have e2 : v53 2 = (eN j) := hd 2 (by kernel_rfl)
     clear hd hold
     refine ⟨_, rfl, gd rfl ?_⟩
     refine Does.mono (d_indexS (q := (kA 2 eQ)) (xs := ns) (v := (ns.getD j (0, 0))) Try.underlying42 s_ti53 e1 (h2.step hO (or1_mono (orq_mono (or1_mono no_any)))) (show _ = Value.int _ ((j : Nat) : Int) from e2) (by omega) (g_at (by first | omega | (simp; done) | (simp; omega)))) (fun u w' h => ⟨h.2 ▸ h.1, h.2 ▸ Only.refl _ _⟩)
    refine ls_cons ?_ ?_
    ·
     intro v53 lo hi w_ k_ hO hd _ _ hk_ _ hR hold
     obtain ⟨r_a19, r_a27, r_a24⟩ := hR
     have d3 : Ps (Or1 se (Orq bo_bad2 (Or1 g0 No))) (At (kA 2 eQ) (ns.getD j (0, 0)) (v53 3)) w_ := hd 3 (by kernel_rfl)
     clear hd hold
     refine ⟨_, rfl, gd rfl ?_⟩
     refine Does.mono (d_indexA (v := (ns.getD j (0, 0))) (c := (ns.getD j (0, 0)).1) Try.underlying53 s_ti3 rfl d3 (show _ = Value.int _ ((0 : Nat) : Int) from rfl) (by decide) (by decide) rfl) (fun u w' h => ⟨h.2 ▸ h.1, h.2 ▸ Only.refl _ _⟩)
    refine ls_cons ?_ ?_
    ·
     intro v53 lo hi w_ k_ hO hd _ _ hk_ _ hR hold
     obtain ⟨r_a19, r_a27, r_a24⟩ := hR
     have d4 : Ps (Or1 se (Orq bo_bad2 (Or1 g0 No))) (At kI ((ns.getD j (0, 0)).1) (v53 4)) w_ := hd 4 (by kernel_rfl)
     clear hd hold
     refine ⟨_, rfl, gd rfl ?_⟩
     exact Does.is (d_loadAt (enc := eI) (v := (ns.getD j (0, 0)).1) ⟨_, Try.underlying3, rfl⟩ rfl d4)
    refine ls_cons ?_ ?_
    ·
     intro v53 lo hi w_ k_ hO hd _ _ hk_ _ hR hold
     obtain ⟨r_a19, r_a27, r_a24⟩ := hR
     have e5 : v53 5 = (eI ((ns.getD j (0, 0)).1)) := hd 5 (by kernel_rfl)
     clear hd hold
     refine ⟨_, rfl, gd rfl ?_⟩
     exact d_call (xl := [.tmp 66, .const (.int .i64 9)]) (al := [(eI ((ns.getD j (0, 0)).1)), (eN 9)]) Try.func16 (by kernel_rfl) rfl (show ([(v53 5), (eN 9)] : List Value) = [(eI ((ns.getD j (0, 0)).1)), (eN 9)] from by rw [e5]) rfl (law9Within_ok ((ns.getD j (0, 0)).1) 9 _ (by omega) (by omega))
    refine ls_cons ?_ ?_
    ·
     intro v53 lo hi w_ k_ hO hd _ _ hk_ _ hR hold
     obtain ⟨r_a19, r_a27, r_a24⟩ := hR
     have e6 : v53 6 = (eN ((((ns.getD j (0, 0)).1) % ((9 : Nat) : Int)).toNat)) := hd 6 (by kernel_rfl)
     clear hd hold
     refine ⟨_, rfl, gd rfl ?_⟩
     exact Does.is (n_add (a := 6) (b := ((((ns.getD j (0, 0)).1) % ((9 : Nat) : Int)).toNat)) rfl e6 (by omega))
    refine ls_cons ?_ ?_
    ·
     intro v53 lo hi w_ k_ hO hd _ _ hk_ _ hR hold
     obtain ⟨r_a19, r_a27, r_a24⟩ := hR
     clear hd hold
     refine ⟨_, rfl, gd rfl ?_⟩
     exact Does.is (d_move rfl)
    refine ls_cons ?_ ?_
    ·
     intro v53 lo hi w_ k_ hO hd _ _ hk_ _ hR hold
     obtain ⟨r_a19, r_a27, r_a24⟩ := hR
     clear hd hold
     refine ⟨_, rfl, gd rfl ?_⟩
     exact Does.is (d_move rfl)
    refine ls_cons ?_ ?_
    ·
     intro v53 lo hi w_ k_ hO hd _ _ hk_ _ hR hold
     obtain ⟨r_a19, r_a27, r_a24⟩ := hR
     have e8 : v53 8 = u2 := hd 8 (by kernel_rfl)
     have e9 : v53 9 = (eN j) := hd 9 (by kernel_rfl)
     clear hd hold
     refine ⟨_, rfl, gd rfl ?_⟩
     refine Does.mono (d_indexS (q := (kA 2 eQ)) (xs := ns) (v := (ns.getD j (0, 0))) Try.underlying42 s_ti53 e8 (h2.step hO (or1_mono (orq_mono (or1_mono no_any)))) (show _ = Value.int _ ((j : Nat) : Int) from e9) (by omega) (g_at (by first | omega | (simp; done) | (simp; omega)))) (fun u w' h => ⟨h.2 ▸ h.1, h.2 ▸ Only.refl _ _⟩)
    refine ls_cons ?_ ?_
    ·
     intro v53 lo hi w_ k_ hO hd _ _ hk_ _ hR hold
     obtain ⟨r_a19, r_a27, r_a24⟩ := hR
     have d10 : Ps (Or1 se (Orq bo_bad2 (Or1 g0 No))) (At (kA 2 eQ) (ns.getD j (0, 0)) (v53 10)) w_ := hd 10 (by kernel_rfl)
     clear hd hold
     refine ⟨_, rfl, gd rfl ?_⟩
     refine Does.mono (d_indexA (v := (ns.getD j (0, 0))) (c := (ns.getD j (0, 0)).2) Try.underlying53 s_ti3 rfl d10 (show _ = Value.int _ ((1 : Nat) : Int) from rfl) (by decide) (by decide) rfl) (fun u w' h => ⟨h.2 ▸ h.1, h.2 ▸ Only.refl _ _⟩)
    refine ls_cons ?_ ?_
    ·
     intro v53 lo hi w_ k_ hO hd _ _ hk_ _ hR hold
     obtain ⟨r_a19, r_a27, r_a24⟩ := hR
     have d11 : Ps (Or1 se (Orq bo_bad2 (Or1 g0 No))) (At kI ((ns.getD j (0, 0)).2) (v53 11)) w_ := hd 11 (by kernel_rfl)
     clear hd hold
     refine ⟨_, rfl, gd rfl ?_⟩
     exact Does.is (d_loadAt (enc := eI) (v := (ns.getD j (0, 0)).2) ⟨_, Try.underlying3, rfl⟩ rfl d11)
    refine ls_cons ?_ ?_
    ·
     intro v53 lo hi w_ k_ hO hd _ _ hk_ _ hR hold
     obtain ⟨r_a19, r_a27, r_a24⟩ := hR
     have e12 : v53 12 = (eI ((ns.getD j (0, 0)).2)) := hd 12 (by kernel_rfl)
     have e7 : v53 7 = (eN (6 + ((((ns.getD j (0, 0)).1) % ((9 : Nat) : Int)).toNat))) := hd 7 (by kernel_rfl)
     clear hd hold
     refine ⟨_, rfl, gd rfl ?_⟩
     exact Does.is (d_buildA (zs := [(eN 0), (eN 0)]) (cs := [(eN (6 + ((((ns.getD j (0, 0)).1) % ((9 : Nat) : Int)).toNat))), (eI ((ns.getD j (0, 0)).2))]) Try.underlying53 s_ti53 s_ti3 rfl (parts_cons (vs := [(eN (6 + ((((ns.getD j (0, 0)).1) % ((9 : Nat) : Int)).toNat)))]) (cells_of (v := (eN (6 + ((((ns.getD j (0, 0)).1) % ((9 : Nat) : Int)).toNat)))) e7 rfl) (parts_cons (vs := [(eI ((ns.getD j (0, 0)).2))]) (cells_of (v := (eI ((ns.getD j (0, 0)).2))) e12 rfl) parts_nil)) rfl)
    refine ls_cons ?_ ?_
    ·
     intro v53 lo hi w_ k_ hO hd _ _ hk_ _ hR hold
     obtain ⟨r_a19, r_a27, r_a24⟩ := hR
     clear hd hold
     refine ⟨_, rfl, gd rfl ?_⟩
     exact Does.is (d_move rfl)
    refine ls_cons ?_ ?_
    ·
     intro v53 lo hi w_ k_ hO hd _ _ hk_ _ hR hold
     obtain ⟨r_a19, r_a27, r_a24⟩ := hR
     clear hd hold
     refine ⟨_, rfl, gd rfl ?_⟩
     exact Does.is (d_move rfl)
    refine ls_cons ?_ ?_
    ·
     intro v53 lo hi w_ k_ hO hd _ _ hk_ _ hR hold
     obtain ⟨r_a19, r_a27, r_a24⟩ := hR
     clear hd hold
     refine ⟨_, rfl, gd rfl ?_⟩
     exact Does.is (d_move rfl)
    refine ls_cons ?_ ?_
    ·
     intro v53 lo hi w_ k_ hO hd _ _ hk_ _ hR hold
     obtain ⟨r_a19, r_a27, r_a24⟩ := hR
     have e15 : v53 15 = u2 := hd 15 (by kernel_rfl)
     have e16 : v53 16 = (eN j) := hd 16 (by kernel_rfl)
     clear hd hold
     refine ⟨_, rfl, gd rfl ?_⟩
     refine Does.mono (d_indexS (q := (kA 2 eQ)) (xs := ns) (v := (ns.getD j (0, 0))) Try.underlying42 s_ti53 e15 (h2.step hO (or1_mono (orq_mono (or1_mono no_any)))) (show _ = Value.int _ ((j : Nat) : Int) from e16) (by omega) (g_at (by first | omega | (simp; done) | (simp; omega)))) (fun u w' h => ⟨h.2 ▸ h.1, h.2 ▸ Only.refl _ _⟩)
    refine ls_cons ?_ ?_
    ·
     intro v53 lo hi w_ k_ hO hd _ _ hk_ _ hR hold
     obtain ⟨r_a19, r_a27, r_a24⟩ := hR
     have d17 : Ps (Or1 se (Orq bo_bad2 (Or1 g0 No))) (At (kA 2 eQ) (ns.getD j (0, 0)) (v53 17)) w_ := hd 17 (by kernel_rfl)
     clear hd hold
     refine ⟨_, rfl, gd rfl ?_⟩
     refine Does.mono (d_indexA (v := (ns.getD j (0, 0))) (c := (ns.getD j (0, 0)).2) Try.underlying53 s_ti3 rfl d17 (show _ = Value.int _ ((1 : Nat) : Int) from rfl) (by decide) (by decide) rfl) (fun u w' h => ⟨h.2 ▸ h.1, h.2 ▸ Only.refl _ _⟩)
    refine ls_cons ?_ ?_
    ·
     intro v53 lo hi w_ k_ hO hd _ _ hk_ _ hR hold
     obtain ⟨r_a19, r_a27, r_a24⟩ := hR
     have d18 : Ps (Or1 se (Orq bo_bad2 (Or1 g0 No))) (At kI ((ns.getD j (0, 0)).2) (v53 18)) w_ := hd 18 (by kernel_rfl)
     clear hd hold
     refine ⟨_, rfl, gd rfl ?_⟩
     exact Does.is (d_loadAt (enc := eI) (v := (ns.getD j (0, 0)).2) ⟨_, Try.underlying3, rfl⟩ rfl d18)
    refine ls_cons ?_ ?_
    ·
     intro v53 lo hi w_ k_ hO hd _ _ hk_ _ hR hold
     obtain ⟨r_a19, r_a27, r_a24⟩ := hR
     have e19 : v53 19 = (eI ((ns.getD j (0, 0)).2)) := hd 19 (by kernel_rfl)
     clear hd hold
     refine ⟨_, rfl, gd rfl ?_⟩
     exact d_call (xl := [.tmp 80, .const (.int .i64 9)]) (al := [(eI ((ns.getD j (0, 0)).2)), (eN 9)]) Try.func16 (by kernel_rfl) rfl (show ([(v53 19), (eN 9)] : List Value) = [(eI ((ns.getD j (0, 0)).2)), (eN 9)] from by rw [e19]) rfl (law9Within_ok ((ns.getD j (0, 0)).2) 9 _ (by omega) (by omega))
    refine ls_cons ?_ ?_
    ·
     intro v53 lo hi w_ k_ hO hd _ _ hk_ _ hR hold
     obtain ⟨r_a19, r_a27, r_a24⟩ := hR
     have e20 : v53 20 = (eN ((((ns.getD j (0, 0)).2) % ((9 : Nat) : Int)).toNat)) := hd 20 (by kernel_rfl)
     clear hd hold
     refine ⟨_, rfl, gd rfl ?_⟩
     exact Does.is (n_add (a := 12) (b := ((((ns.getD j (0, 0)).2) % ((9 : Nat) : Int)).toNat)) rfl e20 (by omega))
    refine ls_cons ?_ ?_
    ·
     intro v53 lo hi w_ k_ hO hd _ _ hk_ _ hR hold
     obtain ⟨r_a19, r_a27, r_a24⟩ := hR
     have e14 : v53 14 = (eN dd) := hd 14 (by kernel_rfl)
     have e21 : v53 21 = (eN (12 + ((((ns.getD j (0, 0)).2) % ((9 : Nat) : Int)).toNat))) := hd 21 (by kernel_rfl)
     clear hd hold
     refine ⟨_, rfl, gd rfl ?_⟩
     exact Does.is (d_buildA (zs := [(eN 0), (eN 0)]) (cs := [(eN dd), (eN (12 + ((((ns.getD j (0, 0)).2) % ((9 : Nat) : Int)).toNat)))]) Try.underlying53 s_ti53 s_ti3 rfl (parts_cons (vs := [(eN dd)]) (cells_of (v := (eN dd)) e14 rfl) (parts_cons (vs := [(eN (12 + ((((ns.getD j (0, 0)).2) % ((9 : Nat) : Int)).toNat)))]) (cells_of (v := (eN (12 + ((((ns.getD j (0, 0)).2) % ((9 : Nat) : Int)).toNat)))) e21 rfl) parts_nil)) rfl)
    refine ls_cons ?_ ?_
    ·
     intro v53 lo hi w_ k_ hO hd _ _ hk_ _ hR hold
     obtain ⟨r_a19, r_a27, r_a24⟩ := hR
     clear hd hold
     refine ⟨_, rfl, gd rfl ?_⟩
     exact Does.is (d_buildA (zs := [(eN 0), (eN 0)]) (cs := [(eI (-1)), (eN 0)]) Try.underlying53 s_ti53 s_ti3 rfl (parts_cons (vs := [(eI (-1))]) (cells_of (v := (eI (-1))) rfl rfl) (parts_cons (vs := [(eN 0)]) (cells_of (v := (eN 0)) rfl rfl) parts_nil)) rfl)
    refine ls_cons ?_ ?_
    ·
     intro v53 lo hi w_ k_ hO hd _ _ hk_ _ hR hold
     obtain ⟨r_a19, r_a27, r_a24⟩ := hR
     have e13 : v53 13 = (Value.agg #[(eN (6 + ((((ns.getD j (0, 0)).1) % ((9 : Nat) : Int)).toNat))), (eI ((ns.getD j (0, 0)).2))]) := hd 13 (by kernel_rfl)
     have e22 : v53 22 = (Value.agg #[(eN dd), (eN (12 + ((((ns.getD j (0, 0)).2) % ((9 : Nat) : Int)).toNat)))]) := hd 22 (by kernel_rfl)
     have e23 : v53 23 = (Value.agg #[(eI (-1)), (eN 0)]) := hd 23 (by kernel_rfl)
     clear hd hold
     refine ⟨_, rfl, gd rfl ?_⟩
     refine Does.mono (d_buildL2 (zs := [(eN 0), (eN 0), (eN 0), (eN 0), (eN 0), (eN 0)]) (cs := [(eN (6 + ((((ns.getD j (0, 0)).1) % ((9 : Nat) : Int)).toNat))), (eI ((ns.getD j (0, 0)).2)), (eN dd), (eN (12 + ((((ns.getD j (0, 0)).2) % ((9 : Nat) : Int)).toNat))), (eI (-1)), (eN 0)]) Try.underlying42 s_ti53 made_three2 (nb rfl) (parts_cons (vs := [(eN (6 + ((((ns.getD j (0, 0)).1) % ((9 : Nat) : Int)).toNat))), (eI ((ns.getD j (0, 0)).2))]) (cells_of (v := (Value.agg #[(eN (6 + ((((ns.getD j (0, 0)).1) % ((9 : Nat) : Int)).toNat))), (eI ((ns.getD j (0, 0)).2))])) e13 rfl) (parts_cons (vs := [(eN dd), (eN (12 + ((((ns.getD j (0, 0)).2) % ((9 : Nat) : Int)).toNat)))]) (cells_of (v := (Value.agg #[(eN dd), (eN (12 + ((((ns.getD j (0, 0)).2) % ((9 : Nat) : Int)).toNat)))])) e22 rfl) (parts_cons (vs := [(eI (-1)), (eN 0)]) (cells_of (v := (Value.agg #[(eI (-1)), (eN 0)])) e23 rfl) parts_nil))) rfl) (fun u w' h => by obtain ⟨b_, rfl, hb_, hA_, hO_⟩ := h; exact ⟨⟨b_, rfl, hA_, Nat.le_trans hO.size hb_⟩, hO_⟩)
    exact ls_nil
   ·
    exact ms_nil
   intro v53 lo_ hi_ w54 o55 hd iv_ hR
   have e0 : v53 0 = u_bad2 := hd 0 (by decide)
   have e1 : v53 1 = u2 := hd 1 (by decide)
   have e2 : v53 2 = (eN j) := hd 2 (by decide)
   have e5 : v53 5 = (eI ((ns.getD j (0, 0)).1)) := hd 5 (by decide)
   have e6 : v53 6 = (eN ((((ns.getD j (0, 0)).1) % ((9 : Nat) : Int)).toNat)) := hd 6 (by decide)
   have e7 : v53 7 = (eN (6 + ((((ns.getD j (0, 0)).1) % ((9 : Nat) : Int)).toNat))) := hd 7 (by decide)
   have e8 : v53 8 = u2 := hd 8 (by decide)
   have e9 : v53 9 = (eN j) := hd 9 (by decide)
   have e12 : v53 12 = (eI ((ns.getD j (0, 0)).2)) := hd 12 (by decide)
   have e13 : v53 13 = (Value.agg #[(eN (6 + ((((ns.getD j (0, 0)).1) % ((9 : Nat) : Int)).toNat))), (eI ((ns.getD j (0, 0)).2))]) := hd 13 (by decide)
   have e14 : v53 14 = (eN dd) := hd 14 (by decide)
   have e15 : v53 15 = u2 := hd 15 (by decide)
   have e16 : v53 16 = (eN j) := hd 16 (by decide)
   have e19 : v53 19 = (eI ((ns.getD j (0, 0)).2)) := hd 19 (by decide)
   have e20 : v53 20 = (eN ((((ns.getD j (0, 0)).2) % ((9 : Nat) : Int)).toNat)) := hd 20 (by decide)
   have e21 : v53 21 = (eN (12 + ((((ns.getD j (0, 0)).2) % ((9 : Nat) : Int)).toNat))) := hd 21 (by decide)
   have e22 : v53 22 = (Value.agg #[(eN dd), (eN (12 + ((((ns.getD j (0, 0)).2) % ((9 : Nat) : Int)).toNat)))]) := hd 22 (by decide)
   have e23 : v53 23 = (Value.agg #[(eI (-1)), (eN 0)]) := hd 23 (by decide)
   have f_v53_3 : Ps (Or1 se (Orq bo_bad2 (Or1 g0 No))) (At (kA 2 eQ) (ns.getD j (0, 0)) (v53 3)) w54 := hd 3 (by decide)
   have f_v53_4 : Ps (Or1 se (Orq bo_bad2 (Or1 g0 No))) (At kI ((ns.getD j (0, 0)).1) (v53 4)) w54 := hd 4 (by decide)
   have f_v53_10 : Ps (Or1 se (Orq bo_bad2 (Or1 g0 No))) (At (kA 2 eQ) (ns.getD j (0, 0)) (v53 10)) w54 := hd 10 (by decide)
   have f_v53_11 : Ps (Or1 se (Orq bo_bad2 (Or1 g0 No))) (At kI ((ns.getD j (0, 0)).2) (v53 11)) w54 := hd 11 (by decide)
   have f_v53_17 : Ps (Or1 se (Orq bo_bad2 (Or1 g0 No))) (At (kA 2 eQ) (ns.getD j (0, 0)) (v53 17)) w54 := hd 17 (by decide)
   have f_v53_18 : Ps (Or1 se (Orq bo_bad2 (Or1 g0 No))) (At kI ((ns.getD j (0, 0)).2) (v53 18)) w54 := hd 18 (by decide)
   obtain ⟨b3, e24, a56, g57⟩ : ∃ b_, v53 24 = (fun b_ => (sli b_ 0 3 3)) b_ ∧ Arr 53 b_ [(eN (6 + ((((ns.getD j (0, 0)).1) % ((9 : Nat) : Int)).toNat))), (eI ((ns.getD j (0, 0)).2)), (eN dd), (eN (12 + ((((ns.getD j (0, 0)).2) % ((9 : Nat) : Int)).toNat))), (eI (-1)), (eN 0)] w54 ∧ w51.heap.size ≤ b_ := hd 24 (by decide)
   dsimp only at e24
   have n_g0_b3 : g0 ≠ b3 := a19.ne g57
   have n_se_b3 : se ≠ b3 := a27.ne g57
   have nq_bad_b3 : ∀ x, bo_bad2 = some x → ¬ x = b3 := fun x hx e => by have := a24.lts x hx; omega
   have g_oW_b3 : W.heap.size ≤ b3 := Nat.le_trans oW.size g57
   have g_o29_b3 : w25.heap.size ≤ b3 := Nat.le_trans o29.size g57
   have g_o50_b3 : w30.heap.size ≤ b3 := Nat.le_trans o50.size g57
   clear hd iv_ lo_ hi_
   refine wpL.flat ([(zf49 0), (zf49 1), u2, (zf49 3), (zf49 4), (zf49 5), (zf49 6), (ptr g0 0), (eN dd), u_bad2, (ptr se 0), (eN (seenN ls i)), (eN i), (zf49 13), (eN j), (zf49 15), undef, undef] ++ (zs zf49 18 37 ++ [(eN j), u2, (eN ns.length), (Value.bool (decide (j < ns.length))), (z 59), (z 60), u_bad2, u2, (eN j), (v53 3), (v53 4), (eI ((ns.getD j (0, 0)).1)), (eN ((((ns.getD j (0, 0)).1) % ((9 : Nat) : Int)).toNat)), (eN (6 + ((((ns.getD j (0, 0)).1) % ((9 : Nat) : Int)).toNat))), u2, (eN j), (v53 10), (v53 11), (eI ((ns.getD j (0, 0)).2)), (Value.agg #[(eN (6 + ((((ns.getD j (0, 0)).1) % ((9 : Nat) : Int)).toNat))), (eI ((ns.getD j (0, 0)).2))]), (eN dd), u2, (eN j), (v53 17), (v53 18), (eI ((ns.getD j (0, 0)).2)), (eN ((((ns.getD j (0, 0)).2) % ((9 : Nat) : Int)).toNat)), (eN (12 + ((((ns.getD j (0, 0)).2) % ((9 : Nat) : Int)).toNat))), (Value.agg #[(eN dd), (eN (12 + ((((ns.getD j (0, 0)).2) % ((9 : Nat) : Int)).toNat)))]), (Value.agg #[(eI (-1)), (eN 0)]), (sli b3 0 3 3), (z 86)] ++ (zs zf49 87 53))) (by rw [e0, e1, e2, e5, e6, e7, e8, e9, e12, e13, e14, e15, e16, e19, e20, e21, e22, e23, e24] <;> rfl) ?_
   clear e0 e1 e2 e5 e6 e7 e8 e9 e12 e13 e14 e15 e16 e19 e20 e21 e22 e23 e24
   replace h1 := (h1.less (Y := (Or1 b3 (Or1 se (Orq bo_bad2 (Or1 g0 No))))) (xx_new g57 xx_id)).step o55 (or1_skip (or1_mono (orq_mono (or1_mono no_any))))
   replace h2 := (h2.less (Y := (Or1 b3 (Or1 se (Orq bo_bad2 (Or1 g0 No))))) (xx_new g57 xx_id)).step o55 (or1_skip (or1_mono (orq_mono (or1_mono no_any))))
   obtain ⟨xr_a19, xr_a27, xr_a24⟩ := hR
   replace a19 : Arr 25 g0 [(eN 6), (eN 12), (eN 4)] w54 := xr_a19
   replace a27 : Arr 56 se ((seenB ls i).map eT) w54 := xr_a27
   replace a24 : Ow 53 2 bo_bad2 u_bad2 ((badB dd ls ns i j)).length (((badB dd ls ns i j)).flatMap eQ) w54 := xr_a24
   clear xr_a19 xr_a27 xr_a24
   replace oW := oW.tail o55 (tl_new g_oW_se (tl_q q_oW_bad (fun _ e => by cases e) (tl_new g_oW_g0 tl_no)))
   replace o29 := o29.tail o55 (tl_in in1 (tl_q q_o29_bad (fun k e => (.inr (.inl e))) (tl_in (in2 (inq in1)) tl_no)))
   replace o50 := o50.tail o55 (tl_in in1 (tl_q q_o50_bad (fun k e => (.inr (.inl e))) (tl_in (in2 (inq in1)) tl_no)))
   clear f_v53_3
   clear f_v53_4
   clear f_v53_10
   clear f_v53_11
   clear f_v53_17
   clear f_v53_18
   refine wO (d_append Try.underlying42 Try.underlying42 s_ti53 rfl rfl rfl a24 (SrcV.of_arr (n := 3) (sz := 2) a56 rfl (one_eQ [(((6 + ((((ns.getD j (0, 0)).1) % ((9 : Nat) : Int)).toNat) : Nat) : Int), (ns.getD j (0, 0)).2), (((dd : Nat) : Int), ((12 + ((((ns.getD j (0, 0)).2) % ((9 : Nat) : Int)).toNat) : Nat) : Int)), ((-1), 0)])) (by have := badB_len dd ls ns i j; omega) (by have := badB_len dd ls ns i j; omega) rfl) ?_
   rintro u58 w59 ⟨bo60, a61, o62, q63⟩
   replace a61 : Ow 53 2 bo60 u58 ((badB dd ls ns i j) ++ [(((6 + ((((ns.getD j (0, 0)).1) % ((9 : Nat) : Int)).toNat) : Nat) : Int), (ns.getD j (0, 0)).2), (((dd : Nat) : Int), ((12 + ((((ns.getD j (0, 0)).2) % ((9 : Nat) : Int)).toNat) : Nat) : Int)), ((-1), 0)]).length (((badB dd ls ns i j) ++ [(((6 + ((((ns.getD j (0, 0)).1) % ((9 : Nat) : Int)).toNat) : Nat) : Int), (ns.getD j (0, 0)).2), (((dd : Nat) : Int), ((12 + ((((ns.getD j (0, 0)).2) % ((9 : Nat) : Int)).toNat) : Nat) : Int)), ((-1), 0)]).flatMap eQ) w59 := ow_app2 (xs := (badB dd ls ns i j)) a61 rfl rfl
   replace h1 := h1.gr o62 (fun k e => (.inr (.inr (.inl e)))) (xx_or1 (xx_or1 (xx_re (Fr.of_or q63) (xx_or1 xx_id))))
   replace h2 := h2.gr o62 (fun k e => (.inr (.inr (.inl e)))) (xx_or1 (xx_or1 (xx_re (Fr.of_or q63) (xx_or1 xx_id))))
   have nq2 := nqs nq_bad_g0 (Fr.of_or q63) a19.lt
   replace a19 := a19.step o62 (fun e => nq_bad_g0 _ e rfl)
   replace nq_bad_g0 := nq2
   clear nq2
   have nq2 := nqs nq_bad_se (Fr.of_or q63) a27.lt
   replace a27 := a27.step o62 (fun e => nq_bad_se _ e rfl)
   replace nq_bad_se := nq2
   clear nq2
   have nq2 := nqs nq_bad_b3 (Fr.of_or q63) a56.lt
   replace a56 := a56.step o62 (fun e => nq_bad_b3 _ e rfl)
   replace nq_bad_b3 := nq2
   clear nq2
   have tq := oW.size
   replace oW := oW.tailr o62 q_oW_bad (fun _ e => by cases e)
   replace q_oW_bad := qtr (Fr.of_or q63) q_oW_bad tq
   clear tq
   have tq := o29.size
   replace o29 := o29.tailr o62 q_o29_bad (fun k e => (.inr (.inl e)))
   replace q_o29_bad := qtr (Fr.of_or q63) q_o29_bad tq
   clear tq
   have tq := o50.size
   replace o50 := o50.tailr o62 q_o50_bad (fun k e => (.inr (.inl e)))
   replace q_o50_bad := qtr (Fr.of_or q63) q_o50_bad tq
   clear tq
   refine wI (d_assign rfl) ?_
   refine wF ([(zf49 0), (zf49 1), u2, (zf49 3), (zf49 4), (zf49 5), (zf49 6), (ptr g0 0), (eN dd), u58, (ptr se 0), (eN (seenN ls i)), (eN i), (zf49 13), (eN j), (zf49 15), undef, undef] ++ (zs zf49 18 37 ++ [(eN j), u2, (eN ns.length), (Value.bool (decide (j < ns.length))), (z 59), (z 60), u_bad2, u2, (eN j), (v53 3), (v53 4), (eI ((ns.getD j (0, 0)).1)), (eN ((((ns.getD j (0, 0)).1) % ((9 : Nat) : Int)).toNat)), (eN (6 + ((((ns.getD j (0, 0)).1) % ((9 : Nat) : Int)).toNat))), u2, (eN j), (v53 10), (v53 11), (eI ((ns.getD j (0, 0)).2)), (Value.agg #[(eN (6 + ((((ns.getD j (0, 0)).1) % ((9 : Nat) : Int)).toNat))), (eI ((ns.getD j (0, 0)).2))]), (eN dd), u2, (eN j), (v53 17), (v53 18), (eI ((ns.getD j (0, 0)).2)), (eN ((((ns.getD j (0, 0)).2) % ((9 : Nat) : Int)).toNat)), (eN (12 + ((((ns.getD j (0, 0)).2) % ((9 : Nat) : Int)).toNat))), (Value.agg #[(eN dd), (eN (12 + ((((ns.getD j (0, 0)).2) % ((9 : Nat) : Int)).toNat)))]), (Value.agg #[(eI (-1)), (eN 0)]), (sli b3 0 3 3), u58] ++ (zs zf49 87 53))) ?_
   refine wpL.done ?_
   refine inb_n (then_n ?_)
   refine plain ?_
   refine wI (d_move rfl) ?_
   refine wI (n_add (a := j) (b := 1) rfl rfl (by omega)) ?_
   refine wI (d_assign rfl) ?_
   refine wF ([(zf49 0), (zf49 1), u2, (zf49 3), (zf49 4), (zf49 5), (zf49 6), (ptr g0 0), (eN dd), u58, (ptr se 0), (eN (seenN ls i)), (eN i), (zf49 13), (eN (j + 1)), (zf49 15), undef, undef] ++ (zs zf49 18 37 ++ [(eN j), u2, (eN ns.length), (Value.bool (decide (j < ns.length))), (eN j), (eN (j + 1)), u_bad2, u2, (eN j), (v53 3), (v53 4), (eI ((ns.getD j (0, 0)).1)), (eN ((((ns.getD j (0, 0)).1) % ((9 : Nat) : Int)).toNat)), (eN (6 + ((((ns.getD j (0, 0)).1) % ((9 : Nat) : Int)).toNat))), u2, (eN j), (v53 10), (v53 11), (eI ((ns.getD j (0, 0)).2)), (Value.agg #[(eN (6 + ((((ns.getD j (0, 0)).1) % ((9 : Nat) : Int)).toNat))), (eI ((ns.getD j (0, 0)).2))]), (eN dd), u2, (eN j), (v53 17), (v53 18), (eI ((ns.getD j (0, 0)).2)), (eN ((((ns.getD j (0, 0)).2) % ((9 : Nat) : Int)).toNat)), (eN (12 + ((((ns.getD j (0, 0)).2) % ((9 : Nat) : Int)).toNat))), (Value.agg #[(eN dd), (eN (12 + ((((ns.getD j (0, 0)).2) % ((9 : Nat) : Int)).toNat)))]), (Value.agg #[(eI (-1)), (eN 0)]), (sli b3 0 3 3), u58] ++ (zs zf49 87 53))) ?_
   refine wpL.done ?_
   refine then_n ?_
   refine ⟨_, ⟨j + 1, bo60, u58⟩, rfl, rfl, ⟨?_, ?_, ?_, ?_, ?_, ?_⟩, ?_⟩
   ·
    (try dsimp only)
    all_goals (omega)
   ·
    exact o50
   ·
    exact a19
   ·
    exact a27
   ·
    (try dsimp only)
    all_goals (rw [← badB_next]; exact a61)
   ·
    exact q_o50_bad
   ·
    (try dsimp only)
    all_goals (omega)
  refine wpIn_exit ?_
  refine then_x (then_x (inb_e ?_))
  refine then_n ?_
  refine wpIn_seq ?_
  have f64 : Ps (Or1 se (Or1 g0 (Old W.heap.size))) (Seq (kA 2 eQ) (badB dd ls ns i j) u_bad2) w51 := Ow.seqA a24 (fun b_ hb_ => (not_or1 (nq_bad_se b_ hb_) (not_or1 (nq_bad_g0 b_ hb_) (old_q q_oW_bad b_ hb_))))
  replace h1 := Ps.less (Y := (Or1 se (Or1 g0 No))) h1 (xx_or1 (xx_skip (xx_or1 xx_id)))
  replace h2 := Ps.less (Y := (Or1 se (Or1 g0 No))) h2 (xx_or1 (xx_skip (xx_or1 xx_id)))
  refine plain ?_
  refine wI (d_loadAg (vs := [(eN 6), (eN 12), (eN 4)]) ⟨_, Try.underlying25, rfl⟩ s_ti25 rfl a19 rfl rfl) ?_
  refine wI (d_move rfl) ?_
  refine wO (d_call (xl := [.tmp 87, .tmp 88]) (al := [(Value.agg #[(eN 6), (eN 12), (eN 4)]), u_bad2]) Try.func31 (by kernel_rfl) rfl rfl rfl (supers_ok 6 12 4 (badB dd ls ns i j) u_bad2 _ (Ps.no f64) (by have := badB_len dd ls ns i j; first | omega | (simp; done) | (simp; omega)) (by omega) (by omega) (by omega))) ?_
  rintro u67 w65 ⟨ws68, hw69, f70, g71, o66⟩
  replace f70 := f70.less (Y := (Or1 se (Or1 g0 (Old W.heap.size)))) (or1_old a27.lt (or1_old a19.lt (old_old oW.size)))
  replace g71 := g71.less (Y := (Or1 se (Or1 g0 (Old W.heap.size)))) (or1_old a27.lt (or1_old a19.lt (old_old oW.size)))
  replace h1 := h1.step0 o66
  replace h2 := h2.step0 o66
  replace f64 := f64.step0 o66
  replace a19 := a19.step0 o66
  replace a27 := a27.step0 o66
  replace oW := oW.tail0 o66
  replace o29 := o29.tail0 o66
  replace o50 := o50.tail0 o66
  refine wF ([(zf49 0), (zf49 1), u2, (zf49 3), (zf49 4), (zf49 5), (zf49 6), (ptr g0 0), (eN dd), u_bad2, (ptr se 0), (eN (seenN ls i)), (eN i), (zf49 13), (eN j), (zf49 15), undef, undef] ++ (zs zf49 18 37 ++ [(eN j), u2, (eN ns.length), (Value.bool (decide (j < ns.length)))] ++ (zs z 59 28 ++ [(Value.agg #[(eN 6), (eN 12), (eN 4)]), u_bad2, u67] ++ (zs zf49 90 50)))) ?_
  refine wI (d_assign rfl) ?_
  refine wF ([(zf49 0), (zf49 1), u2, (zf49 3), (zf49 4), (zf49 5), (zf49 6), (ptr g0 0), (eN dd), u_bad2, (ptr se 0), (eN (seenN ls i)), (eN i), (zf49 13), (eN j), u67, undef, undef] ++ (zs zf49 18 37 ++ [(eN j), u2, (eN ns.length), (Value.bool (decide (j < ns.length)))] ++ (zs z 59 28 ++ [(Value.agg #[(eN 6), (eN 12), (eN 4)]), u_bad2, u67] ++ (zs zf49 90 50)))) ?_
  refine wpL.done ?_
  refine then_n ?_
  refine forget (fun zf72 => (zs zf72 0 7 ++ [(ptr g0 0), (eN dd), u_bad2, (ptr se 0), (eN (seenN ls i)), (eN i), (zf72 13), (eN j), u67, undef, undef] ++ (zs zf72 18 122))) (by kernel_rfl) (fun zf72 => ?_)
  refine wpIn_seq ?_
  refine wpIn_seq ?_
  have sl := seenN_le ls i
  refine plain ?_
  refine wI (d_move rfl) ?_
  refine wI (d_lenS rfl Try.underlying47 rfl f70) ?_
  refine wI (d_move rfl) ?_
  refine wF (zs zf72 0 7 ++ [(ptr g0 0), (eN dd), u_bad2, (ptr se 0), (eN (seenN ls i)), (eN i), (zf72 13), (eN j), u67, undef, undef] ++ (zs zf72 18 72 ++ [u67, (eN ws68.length), (eN (seenN ls i))] ++ (zs zf72 93 47))) ?_
  refine wI (n_sub (a := 12) (b := (seenN ls i)) rfl rfl (by omega) (by omega)) ?_
  refine wI (n_neq (a := ws68.length) (b := (12 - (seenN ls i))) rfl rfl (by rw [decide_eq_true (by rw [hw69]; exact nMin_seen hdd)] <;> rfl)) ?_
  refine wF (zs zf72 0 7 ++ [(ptr g0 0), (eN dd), u_bad2, (ptr se 0), (eN (seenN ls i)), (eN i), (zf72 13), (eN j), u67, undef, undef] ++ (zs zf72 18 72 ++ [u67, (eN ws68.length), (eN (seenN ls i)), (eN (12 - (seenN ls i))), (Value.bool false)] ++ (zs zf72 95 45))) ?_
  refine wpL.done ?_
  refine then_n ?_
  refine cond_f rfl ?_
  refine wpIn_skip ?_
  refine then_n ?_
  refine wpIn_seq ?_
  refine plain ?_
  refine wI (d_assign rfl) ?_
  refine wF (zs zf72 0 7 ++ [(ptr g0 0), (eN dd), u_bad2, (ptr se 0), (eN (seenN ls i)), (eN i), (zf72 13), (eN j), u67, (eN 0), undef] ++ (zs zf72 18 72 ++ [u67, (eN ws68.length), (eN (seenN ls i)), (eN (12 - (seenN ls i))), (Value.bool false)] ++ (zs zf72 95 45))) ?_
  refine wpL.done ?_
  refine then_n ?_
  refine wpIn_seq ?_
  refine wpIn_seq ?_
  refine plain ?_
  refine wI (d_assign rfl) ?_
  refine wF (zs zf72 0 7 ++ [(ptr g0 0), (eN dd), u_bad2, (ptr se 0), (eN (seenN ls i)), (eN i), (zf72 13), (eN j), u67, (eN 0), (eN 0)] ++ (zs zf72 18 72 ++ [u67, (eN ws68.length), (eN (seenN ls i)), (eN (12 - (seenN ls i))), (Value.bool false)] ++ (zs zf72 95 45))) ?_
  refine wpL.done ?_
  refine then_n ?_
  refine wpIn_block ?_
  refine loop2 (fun (b : (Nat)) => fun (z : Nat → Value) => ((zs zf72 0 6 ++ [(z 6), (ptr g0 0), (eN dd), u_bad2, (ptr se 0), (eN (seenN ls i)), (eN i), (zf72 13), (eN j), u67, (eN ((goodL (badB dd ls ns i j) dd b).length)), (eN b)] ++ (zs zf72 18 72 ++ [u67, (eN ws68.length), (eN (seenN ls i)), (eN (12 - (seenN ls i))), (Value.bool false)] ++ (zs z 95 39 ++ (zs zf72 134 6)))) : List Value)) (fun (b : (Nat)) => fun (w_ : World) => (b ≤ 12) ∧ Only (Or1 se (Or1 g0 No)) w65 w_ ∧ Arr 25 g0 [(eN 6), (eN 12), (eN 4)] w_ ∧ Arr 56 se ((seenB ls i).map eT) w_) (fun (b : (Nat)) => 12 - b) 0 rfl ?_ ?_
  ·
   refine ⟨?_, ?_, ?_, ?_⟩
   ·
    exact Nat.zero_le _
   ·
    exact Only.refl _ _
   ·
    exact a19
   ·
    exact a27
  rintro b z w74 ⟨hb, o73, a19, a27⟩
  (try dsimp only)
  replace h1 := h1.step o73 (or1_mono (or1_mono no_any))
  replace h2 := h2.step o73 (or1_mono (or1_mono no_any))
  replace f64 := f64.step o73 (or1_mono (or1_mono no_any))
  replace f70 := f70.step o73 (or1_mono (or1_mono no_any))
  replace g71 := g71.step o73 (or1_mono (or1_mono no_any))
  replace oW := oW.tail o73 (tl_new g_oW_se (tl_new g_oW_g0 tl_no))
  replace o29 := o29.tail o73 (tl_in in1 (tl_in (in2 (inq in1)) tl_no))
  replace o50 := o50.tail o73 (tl_in in1 (tl_in (in2 (inq in1)) tl_no))
  refine wpIn_seq ?_
  refine wpIn_seq ?_
  refine plain ?_
  refine wI (d_move rfl) ?_
  refine wI (n_lss (a := b) (b := 12) rfl rfl rfl) ?_
  refine wF (zs zf72 0 6 ++ [(z 6), (ptr g0 0), (eN dd), u_bad2, (ptr se 0), (eN (seenN ls i)), (eN i), (zf72 13), (eN j), u67, (eN ((goodL (badB dd ls ns i j) dd b).length)), (eN b)] ++ (zs zf72 18 72 ++ [u67, (eN ws68.length), (eN (seenN ls i)), (eN (12 - (seenN ls i))), (Value.bool false), (eN b), (Value.bool (decide (b < 12)))] ++ (zs z 97 37 ++ (zs zf72 134 6)))) ?_
  refine wpL.done ?_
  refine then_n ?_
  refine cond_if rfl (fun hb12 => ?_) (fun hb12 => ?_)
  ·
   refine wpIn_skip ?_
   refine then_n ?_
   refine wpIn_seq ?_
   refine wpIn_block ?_
   refine wpIn_seq ?_
   refine wpIn_seq ?_
   by_cases kb : (seenB ls i).getD b false = true
   ·
    refine plain ?_
    refine wI (d_move rfl) ?_
    refine wI (d_indexArr1 (i := b) Try.underlying56 s_ti4 rfl (show _ = Value.int _ ((b : Nat) : Int) from rfl) (by omega)) ?_
    refine wI (dv_to (d_load ⟨_, Try.underlying4, rfl⟩ rfl a27 (m_at (d := false) (by rw [l_se]; omega))) (congrArg Value.bool kb)) ?_
    refine wF (zs zf72 0 6 ++ [(z 6), (ptr g0 0), (eN dd), u_bad2, (ptr se 0), (eN (seenN ls i)), (eN i), (zf72 13), (eN j), u67, (eN ((goodL (badB dd ls ns i j) dd b).length)), (eN b)] ++ (zs zf72 18 72 ++ [u67, (eN ws68.length), (eN (seenN ls i)), (eN (12 - (seenN ls i))), (Value.bool false), (eN b), (Value.bool (decide (b < 12))), (z 97), (z 98), (eN b), (ptr se b), (Value.bool true)] ++ (zs z 102 32 ++ (zs zf72 134 6)))) ?_
    refine wpL.done ?_
    refine then_n ?_
    refine cond_t rfl ?_
    refine wpIn_exit ?_
    refine then_x (inb_e ?_)
    refine then_n ?_
    refine plain ?_
    refine wI (d_move rfl) ?_
    refine wI (n_add (a := b) (b := 1) rfl rfl (by omega)) ?_
    refine wI (d_assign rfl) ?_
    refine wF (zs zf72 0 6 ++ [(z 6), (ptr g0 0), (eN dd), u_bad2, (ptr se 0), (eN (seenN ls i)), (eN i), (zf72 13), (eN j), u67, (eN ((goodL (badB dd ls ns i j) dd b).length)), (eN (b + 1))] ++ (zs zf72 18 72 ++ [u67, (eN ws68.length), (eN (seenN ls i)), (eN (12 - (seenN ls i))), (Value.bool false), (eN b), (Value.bool (decide (b < 12))), (eN b), (eN (b + 1)), (eN b), (ptr se b), (Value.bool true)] ++ (zs z 102 32 ++ (zs zf72 134 6)))) ?_
    refine wpL.done ?_
    refine then_n ?_
    refine ⟨(zs zf72 0 6 ++ [(z 6), (ptr g0 0), (eN dd), u_bad2, (ptr se 0), (eN (seenN ls i)), (eN i), (zf72 13), (eN j), u67, (eN ((goodL (badB dd ls ns i j) dd (b + 1)).length)), (eN (b + 1))] ++ (zs zf72 18 72 ++ [u67, (eN ws68.length), (eN (seenN ls i)), (eN (12 - (seenN ls i))), (Value.bool false), (eN b), (Value.bool (decide (b < 12))), (eN b), (eN (b + 1)), (eN b), (ptr se b), (Value.bool true)] ++ (zs z 102 32 ++ (zs zf72 134 6)))), (b + 1), (congrArg (fun l_ => fr l_ _) (show ((zs zf72 0 6 ++ [(z 6), (ptr g0 0), (eN dd), u_bad2, (ptr se 0), (eN (seenN ls i)), (eN i), (zf72 13), (eN j), u67, (eN ((goodL (badB dd ls ns i j) dd b).length)), (eN (b + 1))] ++ (zs zf72 18 72 ++ [u67, (eN ws68.length), (eN (seenN ls i)), (eN (12 - (seenN ls i))), (Value.bool false), (eN b), (Value.bool (decide (b < 12))), (eN b), (eN (b + 1)), (eN b), (ptr se b), (Value.bool true)] ++ (zs z 102 32 ++ (zs zf72 134 6)))) : List Value) = (zs zf72 0 6 ++ [(z 6), (ptr g0 0), (eN dd), u_bad2, (ptr se 0), (eN (seenN ls i)), (eN i), (zf72 13), (eN j), u67, (eN ((goodL (badB dd ls ns i j) dd (b + 1)).length)), (eN (b + 1))] ++ (zs zf72 18 72 ++ [u67, (eN ws68.length), (eN (seenN ls i)), (eN (12 - (seenN ls i))), (Value.bool false), (eN b), (Value.bool (decide (b < 12))), (eN b), (eN (b + 1)), (eN b), (ptr se b), (Value.bool true)] ++ (zs z 102 32 ++ (zs zf72 134 6)))) from reslot (zs zf72 0 6 ++ [(z 6), (ptr g0 0), (eN dd), u_bad2, (ptr se 0), (eN (seenN ls i)), (eN i), (zf72 13), (eN j), u67, (eN ((goodL (badB dd ls ns i j) dd b).length)), (eN (b + 1))] ++ (zs zf72 18 72 ++ [u67, (eN ws68.length), (eN (seenN ls i)), (eN (12 - (seenN ls i))), (Value.bool false), (eN b), (Value.bool (decide (b < 12))), (eN b), (eN (b + 1)), (eN b), (ptr se b), (Value.bool true)] ++ (zs z 102 32 ++ (zs zf72 134 6)))) 16 (congrArg eN (at_same hdd hb12 kb)))), rfl, ⟨?_, ?_, ?_, ?_⟩, ?_⟩
    ·
     (try dsimp only)
     all_goals (omega)
    ·
     exact o73
    ·
     exact a19
    ·
     exact a27
    ·
     (try dsimp only)
     all_goals (omega)
   refine plain ?_
   refine wI (d_move rfl) ?_
   refine wI (d_indexArr1 (i := b) Try.underlying56 s_ti4 rfl (show _ = Value.int _ ((b : Nat) : Int) from rfl) (by omega)) ?_
   refine wI (dv_to (d_load ⟨_, Try.underlying4, rfl⟩ rfl a27 (m_at (d := false) (by rw [l_se]; omega))) (congrArg Value.bool (Bool.eq_false_iff.2 kb))) ?_
   refine wF (zs zf72 0 6 ++ [(z 6), (ptr g0 0), (eN dd), u_bad2, (ptr se 0), (eN (seenN ls i)), (eN i), (zf72 13), (eN j), u67, (eN ((goodL (badB dd ls ns i j) dd b).length)), (eN b)] ++ (zs zf72 18 72 ++ [u67, (eN ws68.length), (eN (seenN ls i)), (eN (12 - (seenN ls i))), (Value.bool false), (eN b), (Value.bool (decide (b < 12))), (z 97), (z 98), (eN b), (ptr se b), (Value.bool false)] ++ (zs z 102 32 ++ (zs zf72 134 6)))) ?_
   refine wpL.done ?_
   refine then_n ?_
   refine cond_f rfl ?_
   refine wpIn_skip ?_
   refine then_n ?_
   refine wpIn_seq ?_
   refine wpIn_seq ?_
   have hat := at_lt (ns := ns) (i := j) hdd hb12 kb
   have hnm := nMin_seen (ls := ls) (ns := ns) (m := i) (i := j) hdd
   have r75 : Ps (Or1 se (Or1 g0 (Old W.heap.size))) (Seq kN (supR (badB dd ls ns i j) 12 6 ((goodL (badB dd ls ns i j) dd b).length)) (ws68.getD ((goodL (badB dd ls ns i j) dd b).length) undef)) w74 := fam_at g71 (by omega)
   have hsl := supR_len (badB dd ls ns i j) 12 6 (goodL (badB dd ls ns i j) dd b).length
   refine plain ?_
   refine wI (d_move rfl) ?_
   refine wI (d_move rfl) ?_
   refine wI (d_ix (i := ((goodL (badB dd ls ns i j) dd b).length)) (xs := ws68) Try.underlying47 s_ti29 rfl f70 (show _ = Value.int _ (((goodL (badB dd ls ns i j) dd b).length : Nat) : Int) from rfl) (by first | omega | (simp; done) | (simp; omega))) ?_
   refine wF (zs zf72 0 6 ++ [(z 6), (ptr g0 0), (eN dd), u_bad2, (ptr se 0), (eN (seenN ls i)), (eN i), (zf72 13), (eN j), u67, (eN ((goodL (badB dd ls ns i j) dd b).length)), (eN b)] ++ (zs zf72 18 72 ++ [u67, (eN ws68.length), (eN (seenN ls i)), (eN (12 - (seenN ls i))), (Value.bool false), (eN b), (Value.bool (decide (b < 12))), (z 97), (z 98), (eN b), (ptr se b), (Value.bool false), u67, (eN ((goodL (badB dd ls ns i j) dd b).length)), (ixp u67 ((goodL (badB dd ls ns i j) dd b).length))] ++ (zs z 105 29 ++ (zs zf72 134 6)))) ?_
   refine wI (d_ldx (i := ((goodL (badB dd ls ns i j) dd b).length)) (xs := ws68) (enc := eV) (v := (ws68.getD ((goodL (badB dd ls ns i j) dd b).length) undef)) ⟨_, Try.underlying29, rfl⟩ rfl f70 (g_at (by first | omega | (simp; done) | (simp; omega)))) ?_
   refine wI (d_lenS rfl Try.underlying29 rfl r75) ?_
   refine wI (n_neq (a := ((supR (badB dd ls ns i j) 12 6 ((goodL (badB dd ls ns i j) dd b).length)).length)) (b := 6) rfl rfl (by rw [decide_eq_true (supR_len _ _ _ _)] <;> rfl)) ?_
   refine wF (zs zf72 0 6 ++ [(z 6), (ptr g0 0), (eN dd), u_bad2, (ptr se 0), (eN (seenN ls i)), (eN i), (zf72 13), (eN j), u67, (eN ((goodL (badB dd ls ns i j) dd b).length)), (eN b)] ++ (zs zf72 18 72 ++ [u67, (eN ws68.length), (eN (seenN ls i)), (eN (12 - (seenN ls i))), (Value.bool false), (eN b), (Value.bool (decide (b < 12))), (z 97), (z 98), (eN b), (ptr se b), (Value.bool false), u67, (eN ((goodL (badB dd ls ns i j) dd b).length)), (ixp u67 ((goodL (badB dd ls ns i j) dd b).length)), (ws68.getD ((goodL (badB dd ls ns i j) dd b).length) undef), (eN ((supR (badB dd ls ns i j) 12 6 ((goodL (badB dd ls ns i j) dd b).length)).length)), (Value.bool false)] ++ (zs z 108 26 ++ (zs zf72 134 6)))) ?_
   refine wI (d_move rfl) ?_
   refine wpL.onis rfl rfl rfl (nb rfl) rfl (d_move rfl) ?_
   refine wpL.onis rfl rfl rfl (nb rfl) rfl (d_move rfl) ?_
   refine wF (zs zf72 0 6 ++ [(z 6), (ptr g0 0), (eN dd), u_bad2, (ptr se 0), (eN (seenN ls i)), (eN i), (zf72 13), (eN j), u67, (eN ((goodL (badB dd ls ns i j) dd b).length)), (eN b)] ++ (zs zf72 18 72 ++ [u67, (eN ws68.length), (eN (seenN ls i)), (eN (12 - (seenN ls i))), (Value.bool false), (eN b), (Value.bool (decide (b < 12))), (z 97), (z 98), (eN b), (ptr se b), (Value.bool false), u67, (eN ((goodL (badB dd ls ns i j) dd b).length)), (ixp u67 ((goodL (badB dd ls ns i j) dd b).length)), (ws68.getD ((goodL (badB dd ls ns i j) dd b).length) undef), (eN ((supR (badB dd ls ns i j) 12 6 ((goodL (badB dd ls ns i j) dd b).length)).length)), (Value.bool false), (Value.bool false), u67, (eN ((goodL (badB dd ls ns i j) dd b).length))] ++ (zs z 111 23 ++ (zs zf72 134 6)))) ?_
   refine wpL.onis rfl rfl rfl (nb rfl) rfl (d_ix (i := ((goodL (badB dd ls ns i j) dd b).length)) (xs := ws68) Try.underlying47 s_ti29 rfl f70 (show _ = Value.int _ (((goodL (badB dd ls ns i j) dd b).length : Nat) : Int) from rfl) (by first | omega | (simp; done) | (simp; omega))) ?_
   refine wpL.onis rfl rfl rfl (nb rfl) rfl (d_ldx (i := ((goodL (badB dd ls ns i j) dd b).length)) (xs := ws68) (enc := eV) (v := (ws68.getD ((goodL (badB dd ls ns i j) dd b).length) undef)) ⟨_, Try.underlying29, rfl⟩ rfl f70 (g_at (by first | omega | (simp; done) | (simp; omega)))) ?_
   refine wpL.onis rfl rfl rfl (nb rfl) rfl (d_move rfl) ?_
   refine wF (zs zf72 0 6 ++ [(z 6), (ptr g0 0), (eN dd), u_bad2, (ptr se 0), (eN (seenN ls i)), (eN i), (zf72 13), (eN j), u67, (eN ((goodL (badB dd ls ns i j) dd b).length)), (eN b)] ++ (zs zf72 18 72 ++ [u67, (eN ws68.length), (eN (seenN ls i)), (eN (12 - (seenN ls i))), (Value.bool false), (eN b), (Value.bool (decide (b < 12))), (z 97), (z 98), (eN b), (ptr se b), (Value.bool false), u67, (eN ((goodL (badB dd ls ns i j) dd b).length)), (ixp u67 ((goodL (badB dd ls ns i j) dd b).length)), (ws68.getD ((goodL (badB dd ls ns i j) dd b).length) undef), (eN ((supR (badB dd ls ns i j) 12 6 ((goodL (badB dd ls ns i j) dd b).length)).length)), (Value.bool false), (Value.bool false), u67, (eN ((goodL (badB dd ls ns i j) dd b).length)), (ixp u67 ((goodL (badB dd ls ns i j) dd b).length)), (ws68.getD ((goodL (badB dd ls ns i j) dd b).length) undef), (eN dd)] ++ (zs z 114 20 ++ (zs zf72 134 6)))) ?_
   refine wpL.onis rfl rfl rfl (nb rfl) rfl (d_ix (i := dd) (xs := (supR (badB dd ls ns i j) 12 6 ((goodL (badB dd ls ns i j) dd b).length))) Try.underlying29 s_ti3 rfl r75 (show _ = Value.int _ ((dd : Nat) : Int) from rfl) (by have := supR_len (badB dd ls ns i j) 12 6 ((goodL (badB dd ls ns i j) dd b).length); have := badB_len dd ls ns i j; first | omega | (simp; done) | (simp; omega))) ?_
   refine wpL.onis rfl rfl rfl (nb rfl) rfl (d_ldx (i := dd) (xs := (supR (badB dd ls ns i j) 12 6 ((goodL (badB dd ls ns i j) dd b).length))) (enc := eN) (v := ((supR (badB dd ls ns i j) 12 6 ((goodL (badB dd ls ns i j) dd b).length)).getD dd 0)) ⟨_, Try.underlying3, rfl⟩ rfl r75 (g_at (by have := supR_len (badB dd ls ns i j) 12 6 ((goodL (badB dd ls ns i j) dd b).length); have := badB_len dd ls ns i j; first | omega | (simp; done) | (simp; omega)))) ?_
   refine wpL.onis rfl rfl rfl (nb rfl) rfl (d_move rfl) ?_
   refine wF (zs zf72 0 6 ++ [(z 6), (ptr g0 0), (eN dd), u_bad2, (ptr se 0), (eN (seenN ls i)), (eN i), (zf72 13), (eN j), u67, (eN ((goodL (badB dd ls ns i j) dd b).length)), (eN b)] ++ (zs zf72 18 72 ++ [u67, (eN ws68.length), (eN (seenN ls i)), (eN (12 - (seenN ls i))), (Value.bool false), (eN b), (Value.bool (decide (b < 12))), (z 97), (z 98), (eN b), (ptr se b), (Value.bool false), u67, (eN ((goodL (badB dd ls ns i j) dd b).length)), (ixp u67 ((goodL (badB dd ls ns i j) dd b).length)), (ws68.getD ((goodL (badB dd ls ns i j) dd b).length) undef), (eN ((supR (badB dd ls ns i j) 12 6 ((goodL (badB dd ls ns i j) dd b).length)).length)), (Value.bool false), (Value.bool false), u67, (eN ((goodL (badB dd ls ns i j) dd b).length)), (ixp u67 ((goodL (badB dd ls ns i j) dd b).length)), (ws68.getD ((goodL (badB dd ls ns i j) dd b).length) undef), (eN dd), (ixp (ws68.getD ((goodL (badB dd ls ns i j) dd b).length) undef) dd), (eN ((supR (badB dd ls ns i j) 12 6 ((goodL (badB dd ls ns i j) dd b).length)).getD dd 0)), (eN b)] ++ (zs z 117 17 ++ (zs zf72 134 6)))) ?_
   refine wpL.onis rfl rfl rfl (nb rfl) rfl (n_neq (a := ((supR (badB dd ls ns i j) 12 6 ((goodL (badB dd ls ns i j) dd b).length)).getD dd 0)) (b := b) rfl rfl (by rw [decide_eq_true (at_b hdd hb12 kb)] <;> rfl)) ?_
   refine wI (d_pick (b := false) (v := (Value.bool false)) rfl rfl) ?_
   refine wI (d_move rfl) ?_
   refine wF (zs zf72 0 6 ++ [(z 6), (ptr g0 0), (eN dd), u_bad2, (ptr se 0), (eN (seenN ls i)), (eN i), (zf72 13), (eN j), u67, (eN ((goodL (badB dd ls ns i j) dd b).length)), (eN b)] ++ (zs zf72 18 72 ++ [u67, (eN ws68.length), (eN (seenN ls i)), (eN (12 - (seenN ls i))), (Value.bool false), (eN b), (Value.bool (decide (b < 12))), (z 97), (z 98), (eN b), (ptr se b), (Value.bool false), u67, (eN ((goodL (badB dd ls ns i j) dd b).length)), (ixp u67 ((goodL (badB dd ls ns i j) dd b).length)), (ws68.getD ((goodL (badB dd ls ns i j) dd b).length) undef), (eN ((supR (badB dd ls ns i j) 12 6 ((goodL (badB dd ls ns i j) dd b).length)).length)), (Value.bool false), (Value.bool false), u67, (eN ((goodL (badB dd ls ns i j) dd b).length)), (ixp u67 ((goodL (badB dd ls ns i j) dd b).length)), (ws68.getD ((goodL (badB dd ls ns i j) dd b).length) undef), (eN dd), (ixp (ws68.getD ((goodL (badB dd ls ns i j) dd b).length) undef) dd), (eN ((supR (badB dd ls ns i j) 12 6 ((goodL (badB dd ls ns i j) dd b).length)).getD dd 0)), (eN b), (Value.bool false), (Value.bool false), (Value.bool false)] ++ (zs z 120 14 ++ (zs zf72 134 6)))) ?_
   refine wpL.onis rfl rfl rfl (nb rfl) rfl (d_move rfl) ?_
   refine wpL.onis rfl rfl rfl (nb rfl) rfl (d_move rfl) ?_
   refine wpL.onis rfl rfl rfl (nb rfl) rfl (d_ix (i := ((goodL (badB dd ls ns i j) dd b).length)) (xs := ws68) Try.underlying47 s_ti29 rfl f70 (show _ = Value.int _ (((goodL (badB dd ls ns i j) dd b).length : Nat) : Int) from rfl) (by first | omega | (simp; done) | (simp; omega))) ?_
   refine wF (zs zf72 0 6 ++ [(z 6), (ptr g0 0), (eN dd), u_bad2, (ptr se 0), (eN (seenN ls i)), (eN i), (zf72 13), (eN j), u67, (eN ((goodL (badB dd ls ns i j) dd b).length)), (eN b)] ++ (zs zf72 18 72 ++ [u67, (eN ws68.length), (eN (seenN ls i)), (eN (12 - (seenN ls i))), (Value.bool false), (eN b), (Value.bool (decide (b < 12))), (z 97), (z 98), (eN b), (ptr se b), (Value.bool false), u67, (eN ((goodL (badB dd ls ns i j) dd b).length)), (ixp u67 ((goodL (badB dd ls ns i j) dd b).length)), (ws68.getD ((goodL (badB dd ls ns i j) dd b).length) undef), (eN ((supR (badB dd ls ns i j) 12 6 ((goodL (badB dd ls ns i j) dd b).length)).length)), (Value.bool false), (Value.bool false), u67, (eN ((goodL (badB dd ls ns i j) dd b).length)), (ixp u67 ((goodL (badB dd ls ns i j) dd b).length)), (ws68.getD ((goodL (badB dd ls ns i j) dd b).length) undef), (eN dd), (ixp (ws68.getD ((goodL (badB dd ls ns i j) dd b).length) undef) dd), (eN ((supR (badB dd ls ns i j) 12 6 ((goodL (badB dd ls ns i j) dd b).length)).getD dd 0)), (eN b), (Value.bool false), (Value.bool false), (Value.bool false), u67, (eN ((goodL (badB dd ls ns i j) dd b).length)), (ixp u67 ((goodL (badB dd ls ns i j) dd b).length))] ++ (zs z 123 11 ++ (zs zf72 134 6)))) ?_
   refine wpL.onis rfl rfl rfl (nb rfl) rfl (d_ldx (i := ((goodL (badB dd ls ns i j) dd b).length)) (xs := ws68) (enc := eV) (v := (ws68.getD ((goodL (badB dd ls ns i j) dd b).length) undef)) ⟨_, Try.underlying29, rfl⟩ rfl f70 (g_at (by first | omega | (simp; done) | (simp; omega)))) ?_
   refine wpL.onis rfl rfl rfl (nb rfl) rfl (d_move rfl) ?_
   refine wpL.onis rfl rfl rfl (nb rfl) rfl (n_add (a := dd) (b := 1) rfl rfl (by omega)) ?_
   refine wF (zs zf72 0 6 ++ [(z 6), (ptr g0 0), (eN dd), u_bad2, (ptr se 0), (eN (seenN ls i)), (eN i), (zf72 13), (eN j), u67, (eN ((goodL (badB dd ls ns i j) dd b).length)), (eN b)] ++ (zs zf72 18 72 ++ [u67, (eN ws68.length), (eN (seenN ls i)), (eN (12 - (seenN ls i))), (Value.bool false), (eN b), (Value.bool (decide (b < 12))), (z 97), (z 98), (eN b), (ptr se b), (Value.bool false), u67, (eN ((goodL (badB dd ls ns i j) dd b).length)), (ixp u67 ((goodL (badB dd ls ns i j) dd b).length)), (ws68.getD ((goodL (badB dd ls ns i j) dd b).length) undef), (eN ((supR (badB dd ls ns i j) 12 6 ((goodL (badB dd ls ns i j) dd b).length)).length)), (Value.bool false), (Value.bool false), u67, (eN ((goodL (badB dd ls ns i j) dd b).length)), (ixp u67 ((goodL (badB dd ls ns i j) dd b).length)), (ws68.getD ((goodL (badB dd ls ns i j) dd b).length) undef), (eN dd), (ixp (ws68.getD ((goodL (badB dd ls ns i j) dd b).length) undef) dd), (eN ((supR (badB dd ls ns i j) 12 6 ((goodL (badB dd ls ns i j) dd b).length)).getD dd 0)), (eN b), (Value.bool false), (Value.bool false), (Value.bool false), u67, (eN ((goodL (badB dd ls ns i j) dd b).length)), (ixp u67 ((goodL (badB dd ls ns i j) dd b).length)), (ws68.getD ((goodL (badB dd ls ns i j) dd b).length) undef), (eN dd), (eN (dd + 1))] ++ (zs z 126 8 ++ (zs zf72 134 6)))) ?_
   refine wpL.onis rfl rfl rfl (nb rfl) rfl (n_rem (a := (dd + 1)) (b := 6) rfl rfl (by decide)) ?_
   refine wpL.onis rfl rfl rfl (nb rfl) rfl (d_ix (i := ((dd + 1) % 6)) (xs := (supR (badB dd ls ns i j) 12 6 ((goodL (badB dd ls ns i j) dd b).length))) Try.underlying29 s_ti3 rfl r75 (show _ = Value.int _ (((dd + 1) % 6 : Nat) : Int) from rfl) (by have := supR_len (badB dd ls ns i j) 12 6 ((goodL (badB dd ls ns i j) dd b).length); have := badB_len dd ls ns i j; first | omega | (simp; done) | (simp; omega))) ?_
   refine wpL.onis rfl rfl rfl (nb rfl) rfl (d_ldx (i := ((dd + 1) % 6)) (xs := (supR (badB dd ls ns i j) 12 6 ((goodL (badB dd ls ns i j) dd b).length))) (enc := eN) (v := ((supR (badB dd ls ns i j) 12 6 ((goodL (badB dd ls ns i j) dd b).length)).getD ((dd + 1) % 6) 0)) ⟨_, Try.underlying3, rfl⟩ rfl r75 (g_at (by have := supR_len (badB dd ls ns i j) 12 6 ((goodL (badB dd ls ns i j) dd b).length); have := badB_len dd ls ns i j; first | omega | (simp; done) | (simp; omega)))) ?_
   refine wF (zs zf72 0 6 ++ [(z 6), (ptr g0 0), (eN dd), u_bad2, (ptr se 0), (eN (seenN ls i)), (eN i), (zf72 13), (eN j), u67, (eN ((goodL (badB dd ls ns i j) dd b).length)), (eN b)] ++ (zs zf72 18 72 ++ [u67, (eN ws68.length), (eN (seenN ls i)), (eN (12 - (seenN ls i))), (Value.bool false), (eN b), (Value.bool (decide (b < 12))), (z 97), (z 98), (eN b), (ptr se b), (Value.bool false), u67, (eN ((goodL (badB dd ls ns i j) dd b).length)), (ixp u67 ((goodL (badB dd ls ns i j) dd b).length)), (ws68.getD ((goodL (badB dd ls ns i j) dd b).length) undef), (eN ((supR (badB dd ls ns i j) 12 6 ((goodL (badB dd ls ns i j) dd b).length)).length)), (Value.bool false), (Value.bool false), u67, (eN ((goodL (badB dd ls ns i j) dd b).length)), (ixp u67 ((goodL (badB dd ls ns i j) dd b).length)), (ws68.getD ((goodL (badB dd ls ns i j) dd b).length) undef), (eN dd), (ixp (ws68.getD ((goodL (badB dd ls ns i j) dd b).length) undef) dd), (eN ((supR (badB dd ls ns i j) 12 6 ((goodL (badB dd ls ns i j) dd b).length)).getD dd 0)), (eN b), (Value.bool false), (Value.bool false), (Value.bool false), u67, (eN ((goodL (badB dd ls ns i j) dd b).length)), (ixp u67 ((goodL (badB dd ls ns i j) dd b).length)), (ws68.getD ((goodL (badB dd ls ns i j) dd b).length) undef), (eN dd), (eN (dd + 1)), (eN ((dd + 1) % 6)), (ixp (ws68.getD ((goodL (badB dd ls ns i j) dd b).length) undef) ((dd + 1) % 6)), (eN ((supR (badB dd ls ns i j) 12 6 ((goodL (badB dd ls ns i j) dd b).length)).getD ((dd + 1) % 6) 0))] ++ (zs z 129 5 ++ (zs zf72 134 6)))) ?_
   refine wpL.onis rfl rfl rfl (nb rfl) rfl (d_move rfl) ?_
   refine wpL.onis rfl rfl rfl (nb rfl) rfl (n_neq (a := ((supR (badB dd ls ns i j) 12 6 ((goodL (badB dd ls ns i j) dd b).length)).getD ((dd + 1) % 6) 0)) (b := ((goodL (badB dd ls ns i j) dd b).length)) rfl rfl (by rw [decide_eq_true (at_else hdd hb12 kb)] <;> rfl)) ?_
   refine wI (d_pick (b := false) (v := (Value.bool false)) rfl rfl) ?_
   refine wF (zs zf72 0 6 ++ [(z 6), (ptr g0 0), (eN dd), u_bad2, (ptr se 0), (eN (seenN ls i)), (eN i), (zf72 13), (eN j), u67, (eN ((goodL (badB dd ls ns i j) dd b).length)), (eN b)] ++ (zs zf72 18 72 ++ [u67, (eN ws68.length), (eN (seenN ls i)), (eN (12 - (seenN ls i))), (Value.bool false), (eN b), (Value.bool (decide (b < 12))), (z 97), (z 98), (eN b), (ptr se b), (Value.bool false), u67, (eN ((goodL (badB dd ls ns i j) dd b).length)), (ixp u67 ((goodL (badB dd ls ns i j) dd b).length)), (ws68.getD ((goodL (badB dd ls ns i j) dd b).length) undef), (eN ((supR (badB dd ls ns i j) 12 6 ((goodL (badB dd ls ns i j) dd b).length)).length)), (Value.bool false), (Value.bool false), u67, (eN ((goodL (badB dd ls ns i j) dd b).length)), (ixp u67 ((goodL (badB dd ls ns i j) dd b).length)), (ws68.getD ((goodL (badB dd ls ns i j) dd b).length) undef), (eN dd), (ixp (ws68.getD ((goodL (badB dd ls ns i j) dd b).length) undef) dd), (eN ((supR (badB dd ls ns i j) 12 6 ((goodL (badB dd ls ns i j) dd b).length)).getD dd 0)), (eN b), (Value.bool false), (Value.bool false), (Value.bool false), u67, (eN ((goodL (badB dd ls ns i j) dd b).length)), (ixp u67 ((goodL (badB dd ls ns i j) dd b).length)), (ws68.getD ((goodL (badB dd ls ns i j) dd b).length) undef), (eN dd), (eN (dd + 1)), (eN ((dd + 1) % 6)), (ixp (ws68.getD ((goodL (badB dd ls ns i j) dd b).length) undef) ((dd + 1) % 6)), (eN ((supR (badB dd ls ns i j) 12 6 ((goodL (badB dd ls ns i j) dd b).length)).getD ((dd + 1) % 6) 0)), (eN ((goodL (badB dd ls ns i j) dd b).length)), (Value.bool false), (Value.bool false), (z 132), (z 133)] ++ (zs zf72 134 6))) ?_
   refine wpL.done ?_
   refine then_n ?_
   refine forget (fun zf76 => (zs zf72 0 6 ++ [(zf76 6), (ptr g0 0), (eN dd), u_bad2, (ptr se 0), (eN (seenN ls i)), (eN i), (zf72 13), (eN j), u67, (eN ((goodL (badB dd ls ns i j) dd b).length)), (eN b)] ++ (zs zf72 18 72 ++ [u67, (eN ws68.length), (eN (seenN ls i)), (eN (12 - (seenN ls i))), (Value.bool false)] ++ (zs zf76 95 36 ++ [(Value.bool false), (zf76 132), (zf76 133)] ++ (zs zf72 134 6))))) (by kernel_rfl) (fun zf76 => ?_)
   refine cond_f rfl ?_
   refine wpIn_skip ?_
   refine then_n ?_
   refine plain ?_
   refine wI (d_move rfl) ?_
   refine wI (n_add (a := ((goodL (badB dd ls ns i j) dd b).length)) (b := 1) rfl rfl (by omega)) ?_
   refine wI (d_assign rfl) ?_
   refine wF (zs zf72 0 6 ++ [(zf76 6), (ptr g0 0), (eN dd), u_bad2, (ptr se 0), (eN (seenN ls i)), (eN i), (zf72 13), (eN j), u67, (eN ((goodL (badB dd ls ns i j) dd b).length + 1)), (eN b)] ++ (zs zf72 18 72 ++ [u67, (eN ws68.length), (eN (seenN ls i)), (eN (12 - (seenN ls i))), (Value.bool false)] ++ (zs zf76 95 36 ++ [(Value.bool false), (eN ((goodL (badB dd ls ns i j) dd b).length)), (eN ((goodL (badB dd ls ns i j) dd b).length + 1))] ++ (zs zf72 134 6)))) ?_
   refine wpL.done ?_
   refine inb_n (then_n ?_)
   refine plain ?_
   refine wI (d_move rfl) ?_
   refine wI (n_add (a := b) (b := 1) rfl rfl (by omega)) ?_
   refine wI (d_assign rfl) ?_
   refine wF (zs zf72 0 6 ++ [(zf76 6), (ptr g0 0), (eN dd), u_bad2, (ptr se 0), (eN (seenN ls i)), (eN i), (zf72 13), (eN j), u67, (eN ((goodL (badB dd ls ns i j) dd b).length + 1)), (eN (b + 1))] ++ (zs zf72 18 72 ++ [u67, (eN ws68.length), (eN (seenN ls i)), (eN (12 - (seenN ls i))), (Value.bool false), (zf76 95), (zf76 96), (eN b), (eN (b + 1))] ++ (zs zf76 99 32 ++ [(Value.bool false), (eN ((goodL (badB dd ls ns i j) dd b).length)), (eN ((goodL (badB dd ls ns i j) dd b).length + 1))] ++ (zs zf72 134 6)))) ?_
   refine wpL.done ?_
   refine then_n ?_
   refine ⟨(zs zf72 0 6 ++ [(zf76 6), (ptr g0 0), (eN dd), u_bad2, (ptr se 0), (eN (seenN ls i)), (eN i), (zf72 13), (eN j), u67, (eN ((goodL (badB dd ls ns i j) dd (b + 1)).length)), (eN (b + 1))] ++ (zs zf72 18 72 ++ [u67, (eN ws68.length), (eN (seenN ls i)), (eN (12 - (seenN ls i))), (Value.bool false), (zf76 95), (zf76 96), (eN b), (eN (b + 1))] ++ (zs zf76 99 32 ++ [(Value.bool false), (eN ((goodL (badB dd ls ns i j) dd b).length)), (eN ((goodL (badB dd ls ns i j) dd b).length + 1))] ++ (zs zf72 134 6)))), (b + 1), (congrArg (fun l_ => fr l_ _) (show ((zs zf72 0 6 ++ [(zf76 6), (ptr g0 0), (eN dd), u_bad2, (ptr se 0), (eN (seenN ls i)), (eN i), (zf72 13), (eN j), u67, (eN ((goodL (badB dd ls ns i j) dd b).length + 1)), (eN (b + 1))] ++ (zs zf72 18 72 ++ [u67, (eN ws68.length), (eN (seenN ls i)), (eN (12 - (seenN ls i))), (Value.bool false), (zf76 95), (zf76 96), (eN b), (eN (b + 1))] ++ (zs zf76 99 32 ++ [(Value.bool false), (eN ((goodL (badB dd ls ns i j) dd b).length)), (eN ((goodL (badB dd ls ns i j) dd b).length + 1))] ++ (zs zf72 134 6)))) : List Value) = (zs zf72 0 6 ++ [(zf76 6), (ptr g0 0), (eN dd), u_bad2, (ptr se 0), (eN (seenN ls i)), (eN i), (zf72 13), (eN j), u67, (eN ((goodL (badB dd ls ns i j) dd (b + 1)).length)), (eN (b + 1))] ++ (zs zf72 18 72 ++ [u67, (eN ws68.length), (eN (seenN ls i)), (eN (12 - (seenN ls i))), (Value.bool false), (zf76 95), (zf76 96), (eN b), (eN (b + 1))] ++ (zs zf76 99 32 ++ [(Value.bool false), (eN ((goodL (badB dd ls ns i j) dd b).length)), (eN ((goodL (badB dd ls ns i j) dd b).length + 1))] ++ (zs zf72 134 6)))) from reslot (zs zf72 0 6 ++ [(zf76 6), (ptr g0 0), (eN dd), u_bad2, (ptr se 0), (eN (seenN ls i)), (eN i), (zf72 13), (eN j), u67, (eN ((goodL (badB dd ls ns i j) dd b).length + 1)), (eN (b + 1))] ++ (zs zf72 18 72 ++ [u67, (eN ws68.length), (eN (seenN ls i)), (eN (12 - (seenN ls i))), (Value.bool false), (zf76 95), (zf76 96), (eN b), (eN (b + 1))] ++ (zs zf76 99 32 ++ [(Value.bool false), (eN ((goodL (badB dd ls ns i j) dd b).length)), (eN ((goodL (badB dd ls ns i j) dd b).length + 1))] ++ (zs zf72 134 6)))) 16 (congrArg eN (at_next hdd hb12 kb)))), rfl, ⟨?_, ?_, ?_, ?_⟩, ?_⟩
   ·
    (try dsimp only)
    all_goals (omega)
   ·
    exact o73
   ·
    exact a19
   ·
    exact a27
   ·
    (try dsimp only)
    all_goals (omega)
  refine wpIn_exit ?_
  refine then_x (then_x (inb_e ?_))
  refine then_n ?_
  refine forget (fun zf77 => (zs zf77 0 7 ++ [(ptr g0 0), (zf77 8), u_bad2, (zf77 10), (eN (seenN ls i)), (eN i), (zf77 13), (eN j), (zf77 15), (eN ((goodL (badB dd ls ns i j) dd b).length)), (eN b)] ++ (zs zf77 18 122))) (by kernel_rfl) (fun zf77 => ?_)
  refine wpIn_seq ?_
  have hb_ : b = 12 := by omega
  refine plain ?_
  refine wI (d_loadAg (vs := [(eN 6), (eN 12), (eN 4)]) ⟨_, Try.underlying25, rfl⟩ s_ti25 rfl a19 rfl rfl) ?_
  refine wI (d_move rfl) ?_
  refine wO (d_call (xl := [.tmp 134, .tmp 135]) (al := [(Value.agg #[(eN 6), (eN 12), (eN 4)]), u_bad2]) Try.func32 (by kernel_rfl) rfl rfl rfl (ref9Supers_ok 6 12 4 (badB dd ls ns i j) u_bad2 _ (Ps.no f64) (by have := badB_len dd ls ns i j; first | omega | (simp; done) | (simp; omega)) (by omega) (by omega) (by omega))) ?_
  rintro u80 w78 ⟨ws81, hw82, f83, g84, o79⟩
  replace f83 := f83.less (Y := (Or1 se (Or1 g0 (Old W.heap.size)))) (or1_old a27.lt (or1_old a19.lt (old_old oW.size)))
  replace g84 := g84.less (Y := (Or1 se (Or1 g0 (Old W.heap.size)))) (or1_old a27.lt (or1_old a19.lt (old_old oW.size)))
  replace h1 := h1.step0 o79
  replace h2 := h2.step0 o79
  replace f64 := f64.step0 o79
  replace f70 := f70.step0 o79
  replace g71 := g71.step0 o79
  replace a19 := a19.step0 o79
  replace a27 := a27.step0 o79
  replace oW := oW.tail0 o79
  replace o29 := o29.tail0 o79
  replace o50 := o50.tail0 o79
  replace o73 := o73.tail0 o79
  refine wF (zs zf77 0 7 ++ [(ptr g0 0), (zf77 8), u_bad2, (zf77 10), (eN (seenN ls i)), (eN i), (zf77 13), (eN j), (zf77 15), (eN ((goodL (badB dd ls ns i j) dd b).length)), (eN b)] ++ (zs zf77 18 116 ++ [(Value.agg #[(eN 6), (eN 12), (eN 4)]), u_bad2, u80, (zf77 137), (zf77 138), (zf77 139)])) ?_
  refine wI (d_lenS rfl Try.underlying47 rfl f83) ?_
  refine wI (d_move rfl) ?_
  refine wI (n_eql (a := ws81.length) (b := ((goodL (badB dd ls ns i j) dd b).length)) rfl rfl (decide_eq_true (by rw [hw82, nMin_seen hdd, hb_, good_seen hdd]))) ?_
  refine wF (zs zf77 0 7 ++ [(ptr g0 0), (zf77 8), u_bad2, (zf77 10), (eN (seenN ls i)), (eN i), (zf77 13), (eN j), (zf77 15), (eN ((goodL (badB dd ls ns i j) dd b).length)), (eN b)] ++ (zs zf77 18 116 ++ [(Value.agg #[(eN 6), (eN 12), (eN 4)]), u_bad2, u80, (eN ws81.length), (eN ((goodL (badB dd ls ns i j) dd b).length)), (Value.bool true)])) ?_
  refine wI (d_assign rfl) ?_
  refine wF (zs zf77 0 6 ++ [(Value.bool true), (ptr g0 0), (zf77 8), u_bad2, (zf77 10), (eN (seenN ls i)), (eN i), (zf77 13), (eN j), (zf77 15), (eN ((goodL (badB dd ls ns i j) dd b).length)), (eN b)] ++ (zs zf77 18 116 ++ [(Value.agg #[(eN 6), (eN 12), (eN 4)]), u_bad2, u80, (eN ws81.length), (eN ((goodL (badB dd ls ns i j) dd b).length)), (Value.bool true)])) ?_
  refine wpL.done ?_
  refine then_n ?_
  refine wpIn_ret ?_
  refine leave0 (v := (Value.bool true)) (res1 Try.results14 rfl) ?_
  exact ⟨rfl, oW⟩
 refine plain ?_
 refine wI (d_move rfl) ?_
 refine wI (d_move rfl) ?_
 refine wI (d_lenS rfl Try.underlying29 rfl h1) ?_
 refine wF ([(zf23 0), u1, u2, (zf23 3), (zf23 4), (zf23 5), (zf23 6), (ptr g0 0), (eN dd), u_bad, (ptr se 0), (eN (seenN ls i)), (eN i), (z 13), undef, (zf23 15), undef, undef] ++ (zs zf23 18 8 ++ [(eN i), u1, (eN ls.length)] ++ (zs z 29 26 ++ (zs zf23 55 6 ++ (us 26 ++ (zs zf23 87 53)))))) ?_
 refine wI (n_lss (a := i) (b := ls.length) rfl rfl (decide_eq_false k0)) ?_
 refine wI (d_move rfl) ?_
 refine wF ([(zf23 0), u1, u2, (zf23 3), (zf23 4), (zf23 5), (zf23 6), (ptr g0 0), (eN dd), u_bad, (ptr se 0), (eN (seenN ls i)), (eN i), (z 13), undef, (zf23 15), undef, undef] ++ (zs zf23 18 8 ++ [(eN i), u1, (eN ls.length), (Value.bool false), (Value.bool false)] ++ (zs z 31 24 ++ (zs zf23 55 6 ++ (us 26 ++ (zs zf23 87 53)))))) ?_
 refine wpL.off rfl rfl rfl (nb rfl) rfl ?_
 refine wpL.off rfl rfl rfl (nb rfl) rfl ?_
 refine wI (d_pick (b := false) (v := (Value.bool false)) rfl rfl) ?_
 refine wF ([(zf23 0), u1, u2, (zf23 3), (zf23 4), (zf23 5), (zf23 6), (ptr g0 0), (eN dd), u_bad, (ptr se 0), (eN (seenN ls i)), (eN i), (z 13), undef, (zf23 15), undef, undef] ++ (zs zf23 18 8 ++ [(eN i), u1, (eN ls.length), (Value.bool false), (Value.bool false), undef, undef, (Value.bool false)] ++ (zs z 34 21 ++ (zs zf23 55 6 ++ (us 26 ++ (zs zf23 87 53)))))) ?_
 refine wpL.done ?_
 refine then_n ?_
 refine cond_f rfl ?_
 refine wpIn_exit ?_
 refine then_x (then_x (inb_e ?_))
 refine then_n ?_
 refine wpIn_seq ?_
 refine wpIn_seq ?_
 refine plain ?_
 refine wI (d_assign rfl) ?_
 refine wF ([(zf23 0), u1, u2, (zf23 3), (zf23 4), (zf23 5), (zf23 6), (ptr g0 0), (eN dd), u_bad, (ptr se 0), (eN (seenN ls i)), (eN i), (z 13), (eN 0), (zf23 15), undef, undef] ++ (zs zf23 18 8 ++ [(eN i), u1, (eN ls.length), (Value.bool false), (Value.bool false), undef, undef, (Value.bool false)] ++ (zs z 34 21 ++ (zs zf23 55 6 ++ (us 26 ++ (zs zf23 87 53)))))) ?_
 refine wpL.done ?_
 refine then_n ?_
 refine wpIn_block ?_
 have h_lt_g0 := a19.lt
 have h_lt_se := a27.lt
 have h_lts_bad := a24.lts
 refine loop2 (fun (s_ : (Nat) × (Option Nat) × (Value)) => match s_ with | ⟨j, bo_bad2, u_bad2⟩ => fun (z : Nat → Value) => (([(zf23 0), u1, u2, (zf23 3), (zf23 4), (zf23 5), (zf23 6), (ptr g0 0), (eN dd), u_bad2, (ptr se 0), (eN (seenN ls i)), (eN i), (z 13), (eN j), (zf23 15), undef, undef] ++ (zs zf23 18 8 ++ [(eN i), u1, (eN ls.length), (Value.bool false), (Value.bool false), undef, undef, (Value.bool false)] ++ (zs z 34 53 ++ (zs zf23 87 53)))) : List Value)) (fun (s_ : (Nat) × (Option Nat) × (Value)) => match s_ with | ⟨j, bo_bad2, u_bad2⟩ => fun (w_ : World) => (j ≤ ns.length) ∧ Only (Or1 se (Orq bo_bad (Or1 g0 No))) w30 w_ ∧ Arr 25 g0 [(eN 6), (eN 12), (eN 4)] w_ ∧ Arr 56 se ((seenB ls i).map eT) w_ ∧ Ow 53 2 bo_bad2 u_bad2 ((badB dd ls ns i j)).length (((badB dd ls ns i j)).flatMap eQ) w_ ∧ Fr bo_bad2 bo_bad w30.heap.size) (fun (s_ : (Nat) × (Option Nat) × (Value)) => match s_ with | ⟨j, bo_bad2, u_bad2⟩ => ns.length - j) ⟨0, bo_bad, u_bad⟩ rfl ?_ ?_
 ·
  refine ⟨?_, ?_, ?_, ?_, ?_, ?_⟩
  ·
   exact Nat.zero_le _
  ·
   exact Only.refl _ _
  ·
   exact a19
  ·
   exact a27
  ·
   (try dsimp only)
   all_goals (rw [← badB_zero]; exact a24)
  ·
   exact Fr.same
 rintro ⟨j, bo_bad2, u_bad2⟩ z w86 ⟨hj, o85, a19, a27, a24, qq_bad⟩
 (try dsimp only)
 replace h1 := h1.re o85 (or1_mono (orq_mono (or1_mono no_any))) (xx_or1 (xx_re qq_bad (xx_or1 xx_id)))
 replace h2 := h2.re o85 (or1_mono (orq_mono (or1_mono no_any))) (xx_or1 (xx_re qq_bad (xx_or1 xx_id)))
 have tq_oW := oW.size
 replace oW := oW.tail o85 (tl_new g_oW_se (tl_q q_oW_bad (fun _ e => by cases e) (tl_new g_oW_g0 tl_no)))
 replace q_oW_bad := qtr qq_bad q_oW_bad tq_oW
 have tq_o29 := o29.size
 replace o29 := o29.tail o85 (tl_in in1 (tl_q q_o29_bad (fun k e => (.inr (.inl e))) (tl_in (in2 (inq in1)) tl_no)))
 replace q_o29_bad := qtr qq_bad q_o29_bad tq_o29
 replace nq_bad_g0 := nqs nq_bad_g0 qq_bad h_lt_g0
 replace nq_bad_se := nqs nq_bad_se qq_bad h_lt_se
 have q_o85_bad := qq_bad
 refine wpIn_seq ?_
 refine wpIn_seq ?_
 refine plain ?_
 refine wI (d_move rfl) ?_
 refine wI (d_move rfl) ?_
 refine wI (d_lenS rfl Try.underlying42 rfl h2) ?_
 refine wF ([(zf23 0), u1, u2, (zf23 3), (zf23 4), (zf23 5), (zf23 6), (ptr g0 0), (eN dd), u_bad2, (ptr se 0), (eN (seenN ls i)), (eN i), (z 13), (eN j), (zf23 15), undef, undef] ++ (zs zf23 18 8 ++ [(eN i), u1, (eN ls.length), (Value.bool false), (Value.bool false), undef, undef, (Value.bool false)] ++ (zs z 34 21 ++ [(eN j), u2, (eN ns.length)] ++ (zs z 58 29 ++ (zs zf23 87 53))))) ?_
 refine wI (n_lss (a := j) (b := ns.length) rfl rfl rfl) ?_
 refine wF ([(zf23 0), u1, u2, (zf23 3), (zf23 4), (zf23 5), (zf23 6), (ptr g0 0), (eN dd), u_bad2, (ptr se 0), (eN (seenN ls i)), (eN i), (z 13), (eN j), (zf23 15), undef, undef] ++ (zs zf23 18 8 ++ [(eN i), u1, (eN ls.length), (Value.bool false), (Value.bool false), undef, undef, (Value.bool false)] ++ (zs z 34 21 ++ [(eN j), u2, (eN ns.length), (Value.bool (decide (j < ns.length)))] ++ (zs z 59 28 ++ (zs zf23 87 53))))) ?_
 refine wpL.done ?_
 refine then_n ?_
 refine cond_if rfl (fun c87 => ?_) (fun c87 => ?_)
 ·
  refine wpIn_skip ?_
  refine then_n ?_
  refine wpIn_seq ?_
  refine wpIn_block ?_
  have hX0_ : ∀ k, (Or1 se (Orq bo_bad2 (Or1 g0 (Old W.heap.size)))) k → k < w86.heap.size := (lt_or1 a27.lt (lt_orq a24.lts (lt_or1 a19.lt (fun k t => Nat.lt_of_lt_of_le t oW.size))))
  have hO0_ : ∀ k, (Or1 se (Orq bo_bad2 (Or1 g0 No))) k → k < w86.heap.size := fun k h => hX0_ k ((or1_mono (orq_mono (or1_mono no_any))) k h)
  refine drawnT (O := (Or1 se (Orq bo_bad2 (Or1 g0 No)))) (n := 27) 25 [0, 0, 0, 6, 14, 30, 62, 126, 0, 0, 768, 1792, 3840, 8190, 0, 0, 0, 98304, 229376, 491520, 1015934, 2064510, 4178046, 0, 16777214, 33554431, 67108863] [(0, 61), (1, 62), (2, 63), (3, 64), (4, 65), (5, 66), (6, 67), (7, 68), (8, 69), (9, 70), (10, 71), (11, 72), (12, 73), (13, 74), (14, 75), (15, 76), (16, 77), (17, 78), (18, 79), (19, 80), (20, 81), (21, 82), (22, 83), (23, 84), (24, 85), (25, 86), (26, 9)] [(0, 61), (1, 62), (2, 63), (3, 64), (4, 65), (5, 66), (6, 67), (7, 68), (8, 69), (9, 70), (10, 71), (11, 72), (12, 73), (13, 74), (14, 75), (15, 76), (16, 77), (17, 78), (18, 79), (19, 80), (20, 81), (21, 82), (22, 83), (23, 84), (24, 85)] [0, 1, 2, 3, 4, 5, 6, 7, 8, 9, 10, 11, 12, 13, 14, 15, 16, 17, 18, 19, 20, 21, 22, 23, 24] [] (fun i_ => ([RF.is (Or1 se (Orq bo_bad2 (Or1 g0 No))) u_bad2, RF.is (Or1 se (Orq bo_bad2 (Or1 g0 No))) u2, RF.is (Or1 se (Orq bo_bad2 (Or1 g0 No))) (eN j), RF.ps (Or1 se (Orq bo_bad2 (Or1 g0 No))) (Or1 se (Orq bo_bad2 (Or1 g0 No))) (At (kA 2 eQ) (ns.getD j (0, 0))) (or1_mono (orq_mono (or1_mono no_any))), RF.ps (Or1 se (Orq bo_bad2 (Or1 g0 No))) (Or1 se (Orq bo_bad2 (Or1 g0 No))) (At kI ((ns.getD j (0, 0)).1)) (or1_mono (orq_mono (or1_mono no_any))), RF.is (Or1 se (Orq bo_bad2 (Or1 g0 No))) (eI ((ns.getD j (0, 0)).1)), RF.is (Or1 se (Orq bo_bad2 (Or1 g0 No))) (eN ((((ns.getD j (0, 0)).1) % ((9 : Nat) : Int)).toNat)), RF.is (Or1 se (Orq bo_bad2 (Or1 g0 No))) (eN (6 + ((((ns.getD j (0, 0)).1) % ((9 : Nat) : Int)).toNat))), RF.is (Or1 se (Orq bo_bad2 (Or1 g0 No))) u2, RF.is (Or1 se (Orq bo_bad2 (Or1 g0 No))) (eN j), RF.ps (Or1 se (Orq bo_bad2 (Or1 g0 No))) (Or1 se (Orq bo_bad2 (Or1 g0 No))) (At (kA 2 eQ) (ns.getD j (0, 0))) (or1_mono (orq_mono (or1_mono no_any))), RF.ps (Or1 se (Orq bo_bad2 (Or1 g0 No))) (Or1 se (Orq bo_bad2 (Or1 g0 No))) (At kI ((ns.getD j (0, 0)).2)) (or1_mono (orq_mono (or1_mono no_any))), RF.is (Or1 se (Orq bo_bad2 (Or1 g0 No))) (eI ((ns.getD j (0, 0)).2)), RF.is (Or1 se (Orq bo_bad2 (Or1 g0 No))) (Value.agg #[(eN (6 + ((((ns.getD j (0, 0)).1) % ((9 : Nat) : Int)).toNat))), (eI ((ns.getD j (0, 0)).2))]), RF.is (Or1 se (Orq bo_bad2 (Or1 g0 No))) (eN dd), RF.is (Or1 se (Orq bo_bad2 (Or1 g0 No))) u2, RF.is (Or1 se (Orq bo_bad2 (Or1 g0 No))) (eN j), RF.ps (Or1 se (Orq bo_bad2 (Or1 g0 No))) (Or1 se (Orq bo_bad2 (Or1 g0 No))) (At (kA 2 eQ) (ns.getD j (0, 0))) (or1_mono (orq_mono (or1_mono no_any))), RF.ps (Or1 se (Orq bo_bad2 (Or1 g0 No))) (Or1 se (Orq bo_bad2 (Or1 g0 No))) (At kI ((ns.getD j (0, 0)).2)) (or1_mono (orq_mono (or1_mono no_any))), RF.is (Or1 se (Orq bo_bad2 (Or1 g0 No))) (eI ((ns.getD j (0, 0)).2)), RF.is (Or1 se (Orq bo_bad2 (Or1 g0 No))) (eN ((((ns.getD j (0, 0)).2) % ((9 : Nat) : Int)).toNat)), RF.is (Or1 se (Orq bo_bad2 (Or1 g0 No))) (eN (12 + ((((ns.getD j (0, 0)).2) % ((9 : Nat) : Int)).toNat))), RF.is (Or1 se (Orq bo_bad2 (Or1 g0 No))) (Value.agg #[(eN dd), (eN (12 + ((((ns.getD j (0, 0)).2) % ((9 : Nat) : Int)).toNat)))]), RF.is (Or1 se (Orq bo_bad2 (Or1 g0 No))) (Value.agg #[(eI (-1)), (eN 0)]), RF.mk_ (Or1 se (Orq bo_bad2 (Or1 g0 No))) (fun b_ => (sli b_ 0 3 3)) 53 [(eN (6 + ((((ns.getD j (0, 0)).1) % ((9 : Nat) : Int)).toNat))), (eI ((ns.getD j (0, 0)).2)), (eN dd), (eN (12 + ((((ns.getD j (0, 0)).2) % ((9 : Nat) : Int)).toNat))), (eI (-1)), (eN 0)] w86.heap.size hO0_] : List (RF (Or1 se (Orq bo_bad2 (Or1 g0 No))))).getD i_ (RF.any (Or1 se (Orq bo_bad2 (Or1 g0 No))))) (fun _ w_ => Arr 25 g0 [(eN 6), (eN 12), (eN 4)] w_ ∧ Arr 56 se ((seenB ls i).map eT) w_ ∧ Ow 53 2 bo_bad2 u_bad2 ((badB dd ls ns i j)).length (((badB dd ls ns i j)).flatMap eQ) w_) (fun v88 => ([(zf23 0), u1, u2, (zf23 3), (zf23 4), (zf23 5), (zf23 6), (ptr g0 0), (eN dd), (v88 26), (ptr se 0), (eN (seenN ls i)), (eN i), (z 13), (eN j), (zf23 15), undef, undef] ++ (zs zf23 18 8 ++ [(eN i), u1, (eN ls.length), (Value.bool false), (Value.bool false), undef, undef, (Value.bool false)] ++ (zs z 34 21 ++ [(eN j), u2, (eN ns.length), (Value.bool (decide (j < ns.length))), (z 59), (z 60), (v88 0), (v88 1), (v88 2), (v88 3), (v88 4), (v88 5), (v88 6), (v88 7), (v88 8), (v88 9), (v88 10), (v88 11), (v88 12), (v88 13), (v88 14), (v88 15), (v88 16), (v88 17), (v88 18), (v88 19), (v88 20), (v88 21), (v88 22), (v88 23), (v88 24), (v88 25)] ++ (zs zf23 87 53))))) (fun v88 => ([(zf23 0), u1, u2, (zf23 3), (zf23 4), (zf23 5), (zf23 6), (ptr g0 0), (eN dd), u_bad2, (ptr se 0), (eN (seenN ls i)), (eN i), (z 13), (eN j), (zf23 15), undef, undef] ++ (zs zf23 18 8 ++ [(eN i), u1, (eN ls.length), (Value.bool false), (Value.bool false), undef, undef, (Value.bool false)] ++ (zs z 34 21 ++ [(eN j), u2, (eN ns.length), (Value.bool (decide (j < ns.length))), (z 59), (z 60), (v88 0), (v88 1), (v88 2), (v88 3), (v88 4), (v88 5), (v88 6), (v88 7), (v88 8), (v88 9), (v88 10), (v88 11), (v88 12), (v88 13), (v88 14), (v88 15), (v88 16), (v88 17), (v88 18), (v88 19), (v88 20), (v88 21), (v88 22), (v88 23), (v88 24), (z 86)] ++ (zs zf23 87 53))))) s_mx (by kernel_rfl) rfl (by decide) (by rfl) (by kernel_rfl) (by kernel_rfl) (by kernel_rfl) (by rfl) (fun v_ => by kernel_rfl) (fun v_ => by kernel_rfl) (fun _ => fun w_ w2_ h ho => by obtain ⟨r_a19, r_a27, r_a24⟩ := h; exact ⟨r_a19.step0 ho, r_a27.step0 ho, r_a24.step0 ho⟩) ⟨a19, a27, a24⟩ ?_ ?_ ?_
  ·
   refine ls_cons ?_ ?_
   ·
    intro v88 lo hi w_ k_ hO hd _ _ hk_ _ hR hold
    obtain ⟨r_a19, r_a27, r_a24⟩ := hR
    have eo26 : v88 26 = u_bad2 := hold (26, 9) (by decide) (by kernel_rfl)
    clear hd hold
    refine ⟨_, rfl, gd rfl ?_⟩
    exact Does.is (d_move (v := u_bad2) eo26)
   refine ls_cons ?_ ?_
   ·
    intro v88 lo hi w_ k_ hO hd _ _ hk_ _ hR hold
    obtain ⟨r_a19, r_a27, r_a24⟩ := hR
    clear hd hold
    refine ⟨_, rfl, gd rfl ?_⟩
    exact Does.is (d_move rfl)
   refine ls_cons ?_ ?_
   ·
    intro v88 lo hi w_ k_ hO hd _ _ hk_ _ hR hold
    obtain ⟨r_a19, r_a27, r_a24⟩ := hR
    clear hd hold
    refine ⟨_, rfl, gd rfl ?_⟩
    exact Does.is (d_move rfl)
   refine ls_cons ?_ ?_
   ·
    intro v88 lo hi w_ k_ hO hd _ _ hk_ _ hR hold
    obtain ⟨r_a19, r_a27, r_a24⟩ := hR
    have e1 : v88 1 = u2 := hd 1 (by kernel_rfl)
    have e2 : v88 2 = (eN j) := hd 2 (by kernel_rfl)
    clear hd hold
    refine ⟨_, rfl, gd rfl ?_⟩
    refine Does.mono (d_indexS (q := (kA 2 eQ)) (xs := ns) (v := (ns.getD j (0, 0))) Try.underlying42 s_ti53 e1 (h2.step hO (or1_mono (orq_mono (or1_mono no_any)))) (show _ = Value.int _ ((j : Nat) : Int) from e2) (by omega) (g_at (by first | omega | (simp; done) | (simp; omega)))) (fun u w' h => ⟨h.2 ▸ h.1, h.2 ▸ Only.refl _ _⟩)
   refine ls_cons ?_ ?_
   ·
    intro v88 lo hi w_ k_ hO hd _ _ hk_ _ hR hold
    obtain ⟨r_a19, r_a27, r_a24⟩ := hR
    have d3 : Ps (Or1 se (Orq bo_bad2 (Or1 g0 No))) (At (kA 2 eQ) (ns.getD j (0, 0)) (v88 3)) w_ := hd 3 (by kernel_rfl)
    clear hd hold
    refine ⟨_, rfl, gd rfl ?_⟩
    refine Does.mono (d_indexA (v := (ns.getD j (0, 0))) (c := (ns.getD j (0, 0)).1) Try.underlying53 s_ti3 rfl d3 (show _ = Value.int _ ((0 : Nat) : Int) from rfl) (by decide) (by decide) rfl) (fun u w' h => ⟨h.2 ▸ h.1, h.2 ▸ Only.refl _ _⟩)
   refine ls_cons ?_ ?_
   ·
    intro v88 lo hi w_ k_ hO hd _ _ hk_ _ hR hold
    obtain ⟨r_a19, r_a27, r_a24⟩ := hR
    have d4 : Ps (Or1 se (Orq bo_bad2 (Or1 g0 No))) (At kI ((ns.getD j (0, 0)).1) (v88 4)) w_ := hd 4 (by kernel_rfl)
    clear hd hold
    refine ⟨_, rfl, gd rfl ?_⟩
    exact Does.is (d_loadAt (enc := eI) (v := (ns.getD j (0, 0)).1) ⟨_, Try.underlying3, rfl⟩ rfl d4)
   refine ls_cons ?_ ?_
   ·
    intro v88 lo hi w_ k_ hO hd _ _ hk_ _ hR hold
    obtain ⟨r_a19, r_a27, r_a24⟩ := hR
    have e5 : v88 5 = (eI ((ns.getD j (0, 0)).1)) := hd 5 (by kernel_rfl)
    clear hd hold
    refine ⟨_, rfl, gd rfl ?_⟩
    exact d_call (xl := [.tmp 66, .const (.int .i64 9)]) (al := [(eI ((ns.getD j (0, 0)).1)), (eN 9)]) Try.func16 (by kernel_rfl) rfl (show ([(v88 5), (eN 9)] : List Value) = [(eI ((ns.getD j (0, 0)).1)), (eN 9)] from by rw [e5]) rfl (law9Within_ok ((ns.getD j (0, 0)).1) 9 _ (by omega) (by omega))
   refine ls_cons ?_ ?_
   ·
    intro v88 lo hi w_ k_ hO hd _ _ hk_ _ hR hold
    obtain ⟨r_a19, r_a27, r_a24⟩ := hR
    have e6 : v88 6 = (eN ((((ns.getD j (0, 0)).1) % ((9 : Nat) : Int)).toNat)) := hd 6 (by kernel_rfl)
    clear hd hold
    refine ⟨_, rfl, gd rfl ?_⟩
    exact Does.is (n_add (a := 6) (b := ((((ns.getD j (0, 0)).1) % ((9 : Nat) : Int)).toNat)) rfl e6 (by omega))
   refine ls_cons ?_ ?_
   ·
    intro v88 lo hi w_ k_ hO hd _ _ hk_ _ hR hold
    obtain ⟨r_a19, r_a27, r_a24⟩ := hR
    clear hd hold
    refine ⟨_, rfl, gd rfl ?_⟩
    exact Does.is (d_move rfl)
   refine ls_cons ?_ ?_
   ·
    intro v88 lo hi w_ k_ hO hd _ _ hk_ _ hR hold
    obtain ⟨r_a19, r_a27, r_a24⟩ := hR
    clear hd hold
    refine ⟨_, rfl, gd rfl ?_⟩
    exact Does.is (d_move rfl)
   refine ls_cons ?_ ?_
   ·
    intro v88 lo hi w_ k_ hO hd _ _ hk_ _ hR hold
    obtain ⟨r_a19, r_a27, r_a24⟩ := hR
    have e8 : v88 8 = u2 := hd 8 (by kernel_rfl)
    have e9 : v88 9 = (eN j) := hd 9 (by kernel_rfl)
    clear hd hold
    refine ⟨_, rfl, gd rfl ?_⟩
    refine Does.mono (d_indexS (q := (kA 2 eQ)) (xs := ns) (v := (ns.getD j (0, 0))) Try.underlying42 s_ti53 e8 (h2.step hO (or1_mono (orq_mono (or1_mono no_any)))) (show _ = Value.int _ ((j : Nat) : Int) from e9) (by omega) (g_at (by first | omega | (simp; done) | (simp; omega)))) (fun u w' h => ⟨h.2 ▸ h.1, h.2 ▸ Only.refl _ _⟩)
   refine ls_cons ?_ ?_
   ·
    intro v88 lo hi w_ k_ hO hd _ _ hk_ _ hR hold
    obtain ⟨r_a19, r_a27, r_a24⟩ := hR
    have d10 : Ps (Or1 se (Orq bo_bad2 (Or1 g0 No))) (At (kA 2 eQ) (ns.getD j (0, 0)) (v88 10)) w_ := hd 10 (by kernel_rfl)
    clear hd hold
    refine ⟨_, rfl, gd rfl ?_⟩
    refine Does.mono (d_indexA (v := (ns.getD j (0, 0))) (c := (ns.getD j (0, 0)).2) Try.underlying53 s_ti3 rfl d10 (show _ = Value.int _ ((1 : Nat) : Int) from rfl) (by decide) (by decide) rfl) (fun u w' h => ⟨h.2 ▸ h.1, h.2 ▸ Only.refl _ _⟩)
   refine ls_cons ?_ ?_
   ·
    intro v88 lo hi w_ k_ hO hd _ _ hk_ _ hR hold
    obtain ⟨r_a19, r_a27, r_a24⟩ := hR
    have d11 : Ps (Or1 se (Orq bo_bad2 (Or1 g0 No))) (At kI ((ns.getD j (0, 0)).2) (v88 11)) w_ := hd 11 (by kernel_rfl)
    clear hd hold
    refine ⟨_, rfl, gd rfl ?_⟩
    exact Does.is (d_loadAt (enc := eI) (v := (ns.getD j (0, 0)).2) ⟨_, Try.underlying3, rfl⟩ rfl d11)
   refine ls_cons ?_ ?_
   ·
    intro v88 lo hi w_ k_ hO hd _ _ hk_ _ hR hold
    obtain ⟨r_a19, r_a27, r_a24⟩ := hR
    have e12 : v88 12 = (eI ((ns.getD j (0, 0)).2)) := hd 12 (by kernel_rfl)
    have e7 : v88 7 = (eN (6 + ((((ns.getD j (0, 0)).1) % ((9 : Nat) : Int)).toNat))) := hd 7 (by kernel_rfl)
    clear hd hold
    refine ⟨_, rfl, gd rfl ?_⟩
    exact Does.is (d_buildA (zs := [(eN 0), (eN 0)]) (cs := [(eN (6 + ((((ns.getD j (0, 0)).1) % ((9 : Nat) : Int)).toNat))), (eI ((ns.getD j (0, 0)).2))]) Try.underlying53 s_ti53 s_ti3 rfl (parts_cons (vs := [(eN (6 + ((((ns.getD j (0, 0)).1) % ((9 : Nat) : Int)).toNat)))]) (cells_of (v := (eN (6 + ((((ns.getD j (0, 0)).1) % ((9 : Nat) : Int)).toNat)))) e7 rfl) (parts_cons (vs := [(eI ((ns.getD j (0, 0)).2))]) (cells_of (v := (eI ((ns.getD j (0, 0)).2))) e12 rfl) parts_nil)) rfl)
   refine ls_cons ?_ ?_
   ·
    intro v88 lo hi w_ k_ hO hd _ _ hk_ _ hR hold
    obtain ⟨r_a19, r_a27, r_a24⟩ := hR
    clear hd hold
    refine ⟨_, rfl, gd rfl ?_⟩
    exact Does.is (d_move rfl)
   refine ls_cons ?_ ?_
   ·
    intro v88 lo hi w_ k_ hO hd _ _ hk_ _ hR hold
    obtain ⟨r_a19, r_a27, r_a24⟩ := hR
    clear hd hold
    refine ⟨_, rfl, gd rfl ?_⟩
    exact Does.is (d_move rfl)
   refine ls_cons ?_ ?_
   ·
    intro v88 lo hi w_ k_ hO hd _ _ hk_ _ hR hold
    obtain ⟨r_a19, r_a27, r_a24⟩ := hR
    clear hd hold
    refine ⟨_, rfl, gd rfl ?_⟩
    exact Does.is (d_move rfl)
   refine ls_cons ?_ ?_
   ·
    intro v88 lo hi w_ k_ hO hd _ _ hk_ _ hR hold
    obtain ⟨r_a19, r_a27, r_a24⟩ := hR
    have e15 : v88 15 = u2 := hd 15 (by kernel_rfl)
    have e16 : v88 16 = (eN j) := hd 16 (by kernel_rfl)
    clear hd hold
    refine ⟨_, rfl, gd rfl ?_⟩
    refine Does.mono (d_indexS (q := (kA 2 eQ)) (xs := ns) (v := (ns.getD j (0, 0))) Try.underlying42 s_ti53 e15 (h2.step hO (or1_mono (orq_mono (or1_mono no_any)))) (show _ = Value.int _ ((j : Nat) : Int) from e16) (by omega) (g_at (by first | omega | (simp; done) | (simp; omega)))) (fun u w' h => ⟨h.2 ▸ h.1, h.2 ▸ Only.refl _ _⟩)
   refine ls_cons ?_ ?_
   ·
    intro v88 lo hi w_ k_ hO hd _ _ hk_ _ hR hold
    obtain ⟨r_a19, r_a27, r_a24⟩ := hR
    have d17 : Ps (Or1 se (Orq bo_bad2 (Or1 g0 No))) (At (kA 2 eQ) (ns.getD j (0, 0)) (v88 17)) w_ := hd 17 (by kernel_rfl)
    clear hd hold
    refine ⟨_, rfl, gd rfl ?_⟩
    refine Does.mono (d_indexA (v := (ns.getD j (0, 0))) (c := (ns.getD j (0, 0)).2) Try.underlying53 s_ti3 rfl d17 (show _ = Value.int _ ((1 : Nat) : Int) from rfl) (by decide) (by decide) rfl) (fun u w' h => ⟨h.2 ▸ h.1, h.2 ▸ Only.refl _ _⟩)
   refine ls_cons ?_ ?_
   ·
    intro v88 lo hi w_ k_ hO hd _ _ hk_ _ hR hold
    obtain ⟨r_a19, r_a27, r_a24⟩ := hR
    have d18 : Ps (Or1 se (Orq bo_bad2 (Or1 g0 No))) (At kI ((ns.getD j (0, 0)).2) (v88 18)) w_ := hd 18 (by kernel_rfl)
    clear hd hold
    refine ⟨_, rfl, gd rfl ?_⟩
    exact Does.is (d_loadAt (enc := eI) (v := (ns.getD j (0, 0)).2) ⟨_, Try.underlying3, rfl⟩ rfl d18)
   refine ls_cons ?_ ?_
   ·
    intro v88 lo hi w_ k_ hO hd _ _ hk_ _ hR hold
    obtain ⟨r_a19, r_a27, r_a24⟩ := hR
    have e19 : v88 19 = (eI ((ns.getD j (0, 0)).2)) := hd 19 (by kernel_rfl)
    clear hd hold
    refine ⟨_, rfl, gd rfl ?_⟩
    exact d_call (xl := [.tmp 80, .const (.int .i64 9)]) (al := [(eI ((ns.getD j (0, 0)).2)), (eN 9)]) Try.func16 (by kernel_rfl) rfl (show ([(v88 19), (eN 9)] : List Value) = [(eI ((ns.getD j (0, 0)).2)), (eN 9)] from by rw [e19]) rfl (law9Within_ok ((ns.getD j (0, 0)).2) 9 _ (by omega) (by omega))
   refine ls_cons ?_ ?_
   ·
    intro v88 lo hi w_ k_ hO hd _ _ hk_ _ hR hold
    obtain ⟨r_a19, r_a27, r_a24⟩ := hR
    have e20 : v88 20 = (eN ((((ns.getD j (0, 0)).2) % ((9 : Nat) : Int)).toNat)) := hd 20 (by kernel_rfl)
    clear hd hold
    refine ⟨_, rfl, gd rfl ?_⟩
    exact Does.is (n_add (a := 12) (b := ((((ns.getD j (0, 0)).2) % ((9 : Nat) : Int)).toNat)) rfl e20 (by omega))
   refine ls_cons ?_ ?_
   ·
    intro v88 lo hi w_ k_ hO hd _ _ hk_ _ hR hold
    obtain ⟨r_a19, r_a27, r_a24⟩ := hR
    have e14 : v88 14 = (eN dd) := hd 14 (by kernel_rfl)
    have e21 : v88 21 = (eN (12 + ((((ns.getD j (0, 0)).2) % ((9 : Nat) : Int)).toNat))) := hd 21 (by kernel_rfl)
    clear hd hold
    refine ⟨_, rfl, gd rfl ?_⟩
    exact Does.is (d_buildA (zs := [(eN 0), (eN 0)]) (cs := [(eN dd), (eN (12 + ((((ns.getD j (0, 0)).2) % ((9 : Nat) : Int)).toNat)))]) Try.underlying53 s_ti53 s_ti3 rfl (parts_cons (vs := [(eN dd)]) (cells_of (v := (eN dd)) e14 rfl) (parts_cons (vs := [(eN (12 + ((((ns.getD j (0, 0)).2) % ((9 : Nat) : Int)).toNat)))]) (cells_of (v := (eN (12 + ((((ns.getD j (0, 0)).2) % ((9 : Nat) : Int)).toNat)))) e21 rfl) parts_nil)) rfl)
   refine ls_cons ?_ ?_
   ·
    intro v88 lo hi w_ k_ hO hd _ _ hk_ _ hR hold
    obtain ⟨r_a19, r_a27, r_a24⟩ := hR
    clear hd hold
    refine ⟨_, rfl, gd rfl ?_⟩
    exact Does.is (d_buildA (zs := [(eN 0), (eN 0)]) (cs := [(eI (-1)), (eN 0)]) Try.underlying53 s_ti53 s_ti3 rfl (parts_cons (vs := [(eI (-1))]) (cells_of (v := (eI (-1))) rfl rfl) (parts_cons (vs := [(eN 0)]) (cells_of (v := (eN 0)) rfl rfl) parts_nil)) rfl)
   refine ls_cons ?_ ?_
   ·
    intro v88 lo hi w_ k_ hO hd _ _ hk_ _ hR hold
    obtain ⟨r_a19, r_a27, r_a24⟩ := hR
    have e13 : v88 13 = (Value.agg #[(eN (6 + ((((ns.getD j (0, 0)).1) % ((9 : Nat) : Int)).toNat))), (eI ((ns.getD j (0, 0)).2))]) := hd 13 (by kernel_rfl)
    have e22 : v88 22 = (Value.agg #[(eN dd), (eN (12 + ((((ns.getD j (0, 0)).2) % ((9 : Nat) : Int)).toNat)))]) := hd 22 (by kernel_rfl)
    have e23 : v88 23 = (Value.agg #[(eI (-1)), (eN 0)]) := hd 23 (by kernel_rfl)
    clear hd hold
    refine ⟨_, rfl, gd rfl ?_⟩
    refine Does.mono (d_buildL2 (zs := [(eN 0), (eN 0), (eN 0), (eN 0), (eN 0), (eN 0)]) (cs := [(eN (6 + ((((ns.getD j (0, 0)).1) % ((9 : Nat) : Int)).toNat))), (eI ((ns.getD j (0, 0)).2)), (eN dd), (eN (12 + ((((ns.getD j (0, 0)).2) % ((9 : Nat) : Int)).toNat))), (eI (-1)), (eN 0)]) Try.underlying42 s_ti53 made_three2 (nb rfl) (parts_cons (vs := [(eN (6 + ((((ns.getD j (0, 0)).1) % ((9 : Nat) : Int)).toNat))), (eI ((ns.getD j (0, 0)).2))]) (cells_of (v := (Value.agg #[(eN (6 + ((((ns.getD j (0, 0)).1) % ((9 : Nat) : Int)).toNat))), (eI ((ns.getD j (0, 0)).2))])) e13 rfl) (parts_cons (vs := [(eN dd), (eN (12 + ((((ns.getD j (0, 0)).2) % ((9 : Nat) : Int)).toNat)))]) (cells_of (v := (Value.agg #[(eN dd), (eN (12 + ((((ns.getD j (0, 0)).2) % ((9 : Nat) : Int)).toNat)))])) e22 rfl) (parts_cons (vs := [(eI (-1)), (eN 0)]) (cells_of (v := (Value.agg #[(eI (-1)), (eN 0)])) e23 rfl) parts_nil))) rfl) (fun u w' h => by obtain ⟨b_, rfl, hb_, hA_, hO_⟩ := h; exact ⟨⟨b_, rfl, hA_, Nat.le_trans hO.size hb_⟩, hO_⟩)
   exact ls_nil
  ·
   exact ms_nil
  intro v88 lo_ hi_ w89 o90 hd iv_ hR
  have e0 : v88 0 = u_bad2 := hd 0 (by decide)
  have e1 : v88 1 = u2 := hd 1 (by decide)
  have e2 : v88 2 = (eN j) := hd 2 (by decide)
  have e5 : v88 5 = (eI ((ns.getD j (0, 0)).1)) := hd 5 (by decide)
  have e6 : v88 6 = (eN ((((ns.getD j (0, 0)).1) % ((9 : Nat) : Int)).toNat)) := hd 6 (by decide)
  have e7 : v88 7 = (eN (6 + ((((ns.getD j (0, 0)).1) % ((9 : Nat) : Int)).toNat))) := hd 7 (by decide)
  have e8 : v88 8 = u2 := hd 8 (by decide)
  have e9 : v88 9 = (eN j) := hd 9 (by decide)
  have e12 : v88 12 = (eI ((ns.getD j (0, 0)).2)) := hd 12 (by decide)
  have e13 : v88 13 = (Value.agg #[(eN (6 + ((((ns.getD j (0, 0)).1) % ((9 : Nat) : Int)).toNat))), (eI ((ns.getD j (0, 0)).2))]) := hd 13 (by decide)
  have e14 : v88 14 = (eN dd) := hd 14 (by decide)
  have e15 : v88 15 = u2 := hd 15 (by decide)
  have e16 : v88 16 = (eN j) := hd 16 (by decide)
  have e19 : v88 19 = (eI ((ns.getD j (0, 0)).2)) := hd 19 (by decide)
  have e20 : v88 20 = (eN ((((ns.getD j (0, 0)).2) % ((9 : Nat) : Int)).toNat)) := hd 20 (by decide)
  have e21 : v88 21 = (eN (12 + ((((ns.getD j (0, 0)).2) % ((9 : Nat) : Int)).toNat))) := hd 21 (by decide)
  have e22 : v88 22 = (Value.agg #[(eN dd), (eN (12 + ((((ns.getD j (0, 0)).2) % ((9 : Nat) : Int)).toNat)))]) := hd 22 (by decide)
  have e23 : v88 23 = (Value.agg #[(eI (-1)), (eN 0)]) := hd 23 (by decide)
  have f_v88_3 : Ps (Or1 se (Orq bo_bad2 (Or1 g0 No))) (At (kA 2 eQ) (ns.getD j (0, 0)) (v88 3)) w89 := hd 3 (by decide)
  have f_v88_4 : Ps (Or1 se (Orq bo_bad2 (Or1 g0 No))) (At kI ((ns.getD j (0, 0)).1) (v88 4)) w89 := hd 4 (by decide)
  have f_v88_10 : Ps (Or1 se (Orq bo_bad2 (Or1 g0 No))) (At (kA 2 eQ) (ns.getD j (0, 0)) (v88 10)) w89 := hd 10 (by decide)
  have f_v88_11 : Ps (Or1 se (Orq bo_bad2 (Or1 g0 No))) (At kI ((ns.getD j (0, 0)).2) (v88 11)) w89 := hd 11 (by decide)
  have f_v88_17 : Ps (Or1 se (Orq bo_bad2 (Or1 g0 No))) (At (kA 2 eQ) (ns.getD j (0, 0)) (v88 17)) w89 := hd 17 (by decide)
  have f_v88_18 : Ps (Or1 se (Orq bo_bad2 (Or1 g0 No))) (At kI ((ns.getD j (0, 0)).2) (v88 18)) w89 := hd 18 (by decide)
  obtain ⟨b3, e24, a91, g92⟩ : ∃ b_, v88 24 = (fun b_ => (sli b_ 0 3 3)) b_ ∧ Arr 53 b_ [(eN (6 + ((((ns.getD j (0, 0)).1) % ((9 : Nat) : Int)).toNat))), (eI ((ns.getD j (0, 0)).2)), (eN dd), (eN (12 + ((((ns.getD j (0, 0)).2) % ((9 : Nat) : Int)).toNat))), (eI (-1)), (eN 0)] w89 ∧ w86.heap.size ≤ b_ := hd 24 (by decide)
  dsimp only at e24
  have n_g0_b3 : g0 ≠ b3 := a19.ne g92
  have n_se_b3 : se ≠ b3 := a27.ne g92
  have nq_bad_b3 : ∀ x, bo_bad2 = some x → ¬ x = b3 := fun x hx e => by have := a24.lts x hx; omega
  have g_oW_b3 : W.heap.size ≤ b3 := Nat.le_trans oW.size g92
  have g_o29_b3 : w25.heap.size ≤ b3 := Nat.le_trans o29.size g92
  have g_o85_b3 : w30.heap.size ≤ b3 := Nat.le_trans o85.size g92
  clear hd iv_ lo_ hi_
  refine wpL.flat ([(zf23 0), u1, u2, (zf23 3), (zf23 4), (zf23 5), (zf23 6), (ptr g0 0), (eN dd), u_bad2, (ptr se 0), (eN (seenN ls i)), (eN i), (z 13), (eN j), (zf23 15), undef, undef] ++ (zs zf23 18 8 ++ [(eN i), u1, (eN ls.length), (Value.bool false), (Value.bool false), undef, undef, (Value.bool false)] ++ (zs z 34 21 ++ [(eN j), u2, (eN ns.length), (Value.bool (decide (j < ns.length))), (z 59), (z 60), u_bad2, u2, (eN j), (v88 3), (v88 4), (eI ((ns.getD j (0, 0)).1)), (eN ((((ns.getD j (0, 0)).1) % ((9 : Nat) : Int)).toNat)), (eN (6 + ((((ns.getD j (0, 0)).1) % ((9 : Nat) : Int)).toNat))), u2, (eN j), (v88 10), (v88 11), (eI ((ns.getD j (0, 0)).2)), (Value.agg #[(eN (6 + ((((ns.getD j (0, 0)).1) % ((9 : Nat) : Int)).toNat))), (eI ((ns.getD j (0, 0)).2))]), (eN dd), u2, (eN j), (v88 17), (v88 18), (eI ((ns.getD j (0, 0)).2)), (eN ((((ns.getD j (0, 0)).2) % ((9 : Nat) : Int)).toNat)), (eN (12 + ((((ns.getD j (0, 0)).2) % ((9 : Nat) : Int)).toNat))), (Value.agg #[(eN dd), (eN (12 + ((((ns.getD j (0, 0)).2) % ((9 : Nat) : Int)).toNat)))]), (Value.agg #[(eI (-1)), (eN 0)]), (sli b3 0 3 3), (z 86)] ++ (zs zf23 87 53)))) (by rw [e0, e1, e2, e5, e6, e7, e8, e9, e12, e13, e14, e15, e16, e19, e20, e21, e22, e23, e24] <;> rfl) ?_
  clear e0 e1 e2 e5 e6 e7 e8 e9 e12 e13 e14 e15 e16 e19 e20 e21 e22 e23 e24
  replace h1 := (h1.less (Y := (Or1 b3 (Or1 se (Orq bo_bad2 (Or1 g0 No))))) (xx_new g92 xx_id)).step o90 (or1_skip (or1_mono (orq_mono (or1_mono no_any))))
  replace h2 := (h2.less (Y := (Or1 b3 (Or1 se (Orq bo_bad2 (Or1 g0 No))))) (xx_new g92 xx_id)).step o90 (or1_skip (or1_mono (orq_mono (or1_mono no_any))))
  obtain ⟨xr_a19, xr_a27, xr_a24⟩ := hR
  replace a19 : Arr 25 g0 [(eN 6), (eN 12), (eN 4)] w89 := xr_a19
  replace a27 : Arr 56 se ((seenB ls i).map eT) w89 := xr_a27
  replace a24 : Ow 53 2 bo_bad2 u_bad2 ((badB dd ls ns i j)).length (((badB dd ls ns i j)).flatMap eQ) w89 := xr_a24
  clear xr_a19 xr_a27 xr_a24
  replace oW := oW.tail o90 (tl_new g_oW_se (tl_q q_oW_bad (fun _ e => by cases e) (tl_new g_oW_g0 tl_no)))
  replace o29 := o29.tail o90 (tl_in in1 (tl_q q_o29_bad (fun k e => (.inr (.inl e))) (tl_in (in2 (inq in1)) tl_no)))
  replace o85 := o85.tail o90 (tl_in in1 (tl_q q_o85_bad (fun k e => (.inr (.inl e))) (tl_in (in2 (inq in1)) tl_no)))
  clear f_v88_3
  clear f_v88_4
  clear f_v88_10
  clear f_v88_11
  clear f_v88_17
  clear f_v88_18
  refine wO (d_append Try.underlying42 Try.underlying42 s_ti53 rfl rfl rfl a24 (SrcV.of_arr (n := 3) (sz := 2) a91 rfl (one_eQ [(((6 + ((((ns.getD j (0, 0)).1) % ((9 : Nat) : Int)).toNat) : Nat) : Int), (ns.getD j (0, 0)).2), (((dd : Nat) : Int), ((12 + ((((ns.getD j (0, 0)).2) % ((9 : Nat) : Int)).toNat) : Nat) : Int)), ((-1), 0)])) (by have := badB_len dd ls ns i j; omega) (by have := badB_len dd ls ns i j; omega) rfl) ?_
  rintro u93 w94 ⟨bo95, a96, o97, q98⟩
  replace a96 : Ow 53 2 bo95 u93 ((badB dd ls ns i j) ++ [(((6 + ((((ns.getD j (0, 0)).1) % ((9 : Nat) : Int)).toNat) : Nat) : Int), (ns.getD j (0, 0)).2), (((dd : Nat) : Int), ((12 + ((((ns.getD j (0, 0)).2) % ((9 : Nat) : Int)).toNat) : Nat) : Int)), ((-1), 0)]).length (((badB dd ls ns i j) ++ [(((6 + ((((ns.getD j (0, 0)).1) % ((9 : Nat) : Int)).toNat) : Nat) : Int), (ns.getD j (0, 0)).2), (((dd : Nat) : Int), ((12 + ((((ns.getD j (0, 0)).2) % ((9 : Nat) : Int)).toNat) : Nat) : Int)), ((-1), 0)]).flatMap eQ) w94 := ow_app2 (xs := (badB dd ls ns i j)) a96 rfl rfl
  replace h1 := h1.gr o97 (fun k e => (.inr (.inr (.inl e)))) (xx_or1 (xx_or1 (xx_re (Fr.of_or q98) (xx_or1 xx_id))))
  replace h2 := h2.gr o97 (fun k e => (.inr (.inr (.inl e)))) (xx_or1 (xx_or1 (xx_re (Fr.of_or q98) (xx_or1 xx_id))))
  have nq2 := nqs nq_bad_g0 (Fr.of_or q98) a19.lt
  replace a19 := a19.step o97 (fun e => nq_bad_g0 _ e rfl)
  replace nq_bad_g0 := nq2
  clear nq2
  have nq2 := nqs nq_bad_se (Fr.of_or q98) a27.lt
  replace a27 := a27.step o97 (fun e => nq_bad_se _ e rfl)
  replace nq_bad_se := nq2
  clear nq2
  have nq2 := nqs nq_bad_b3 (Fr.of_or q98) a91.lt
  replace a91 := a91.step o97 (fun e => nq_bad_b3 _ e rfl)
  replace nq_bad_b3 := nq2
  clear nq2
  have tq := oW.size
  replace oW := oW.tailr o97 q_oW_bad (fun _ e => by cases e)
  replace q_oW_bad := qtr (Fr.of_or q98) q_oW_bad tq
  clear tq
  have tq := o29.size
  replace o29 := o29.tailr o97 q_o29_bad (fun k e => (.inr (.inl e)))
  replace q_o29_bad := qtr (Fr.of_or q98) q_o29_bad tq
  clear tq
  have tq := o85.size
  replace o85 := o85.tailr o97 q_o85_bad (fun k e => (.inr (.inl e)))
  replace q_o85_bad := qtr (Fr.of_or q98) q_o85_bad tq
  clear tq
  refine wI (d_assign rfl) ?_
  refine wF ([(zf23 0), u1, u2, (zf23 3), (zf23 4), (zf23 5), (zf23 6), (ptr g0 0), (eN dd), u93, (ptr se 0), (eN (seenN ls i)), (eN i), (z 13), (eN j), (zf23 15), undef, undef] ++ (zs zf23 18 8 ++ [(eN i), u1, (eN ls.length), (Value.bool false), (Value.bool false), undef, undef, (Value.bool false)] ++ (zs z 34 21 ++ [(eN j), u2, (eN ns.length), (Value.bool (decide (j < ns.length))), (z 59), (z 60), u_bad2, u2, (eN j), (v88 3), (v88 4), (eI ((ns.getD j (0, 0)).1)), (eN ((((ns.getD j (0, 0)).1) % ((9 : Nat) : Int)).toNat)), (eN (6 + ((((ns.getD j (0, 0)).1) % ((9 : Nat) : Int)).toNat))), u2, (eN j), (v88 10), (v88 11), (eI ((ns.getD j (0, 0)).2)), (Value.agg #[(eN (6 + ((((ns.getD j (0, 0)).1) % ((9 : Nat) : Int)).toNat))), (eI ((ns.getD j (0, 0)).2))]), (eN dd), u2, (eN j), (v88 17), (v88 18), (eI ((ns.getD j (0, 0)).2)), (eN ((((ns.getD j (0, 0)).2) % ((9 : Nat) : Int)).toNat)), (eN (12 + ((((ns.getD j (0, 0)).2) % ((9 : Nat) : Int)).toNat))), (Value.agg #[(eN dd), (eN (12 + ((((ns.getD j (0, 0)).2) % ((9 : Nat) : Int)).toNat)))]), (Value.agg #[(eI (-1)), (eN 0)]), (sli b3 0 3 3), u93] ++ (zs zf23 87 53)))) ?_
  refine wpL.done ?_
  refine inb_n (then_n ?_)
  refine plain ?_
  refine wI (d_move rfl) ?_
  refine wI (n_add (a := j) (b := 1) rfl rfl (by omega)) ?_
  refine wI (d_assign rfl) ?_
  refine wF ([(zf23 0), u1, u2, (zf23 3), (zf23 4), (zf23 5), (zf23 6), (ptr g0 0), (eN dd), u93, (ptr se 0), (eN (seenN ls i)), (eN i), (z 13), (eN (j + 1)), (zf23 15), undef, undef] ++ (zs zf23 18 8 ++ [(eN i), u1, (eN ls.length), (Value.bool false), (Value.bool false), undef, undef, (Value.bool false)] ++ (zs z 34 21 ++ [(eN j), u2, (eN ns.length), (Value.bool (decide (j < ns.length))), (eN j), (eN (j + 1)), u_bad2, u2, (eN j), (v88 3), (v88 4), (eI ((ns.getD j (0, 0)).1)), (eN ((((ns.getD j (0, 0)).1) % ((9 : Nat) : Int)).toNat)), (eN (6 + ((((ns.getD j (0, 0)).1) % ((9 : Nat) : Int)).toNat))), u2, (eN j), (v88 10), (v88 11), (eI ((ns.getD j (0, 0)).2)), (Value.agg #[(eN (6 + ((((ns.getD j (0, 0)).1) % ((9 : Nat) : Int)).toNat))), (eI ((ns.getD j (0, 0)).2))]), (eN dd), u2, (eN j), (v88 17), (v88 18), (eI ((ns.getD j (0, 0)).2)), (eN ((((ns.getD j (0, 0)).2) % ((9 : Nat) : Int)).toNat)), (eN (12 + ((((ns.getD j (0, 0)).2) % ((9 : Nat) : Int)).toNat))), (Value.agg #[(eN dd), (eN (12 + ((((ns.getD j (0, 0)).2) % ((9 : Nat) : Int)).toNat)))]), (Value.agg #[(eI (-1)), (eN 0)]), (sli b3 0 3 3), u93] ++ (zs zf23 87 53)))) ?_
  refine wpL.done ?_
  refine then_n ?_
  refine ⟨_, ⟨j + 1, bo95, u93⟩, rfl, rfl, ⟨?_, ?_, ?_, ?_, ?_, ?_⟩, ?_⟩
  ·
   (try dsimp only)
   all_goals (omega)
  ·
   exact o85
  ·
   exact a19
  ·
   exact a27
  ·
   (try dsimp only)
   all_goals (rw [← badB_next]; exact a96)
  ·
   exact q_o85_bad
  ·
   (try dsimp only)
   all_goals (omega)
 refine wpIn_exit ?_
 refine then_x (then_x (inb_e ?_))
 refine then_n ?_
 refine forget (fun zf99 => (zs zf99 0 7 ++ [(ptr g0 0), (eN dd), u_bad2, (ptr se 0), (eN (seenN ls i)), (eN i), (zf99 13), (eN j), (zf99 15), undef, undef] ++ (zs zf99 18 122))) (by kernel_rfl) (fun zf99 => ?_)
 refine wpIn_seq ?_
 have f100 : Ps (Or1 se (Or1 g0 (Old W.heap.size))) (Seq (kA 2 eQ) (badB dd ls ns i j) u_bad2) w86 := Ow.seqA a24 (fun b_ hb_ => (not_or1 (nq_bad_se b_ hb_) (not_or1 (nq_bad_g0 b_ hb_) (old_q q_oW_bad b_ hb_))))
 replace h1 := Ps.less (Y := (Or1 se (Or1 g0 No))) h1 (xx_or1 (xx_skip (xx_or1 xx_id)))
 replace h2 := Ps.less (Y := (Or1 se (Or1 g0 No))) h2 (xx_or1 (xx_skip (xx_or1 xx_id)))
 refine plain ?_
 refine wI (d_loadAg (vs := [(eN 6), (eN 12), (eN 4)]) ⟨_, Try.underlying25, rfl⟩ s_ti25 rfl a19 rfl rfl) ?_
 refine wI (d_move rfl) ?_
 refine wO (d_call (xl := [.tmp 87, .tmp 88]) (al := [(Value.agg #[(eN 6), (eN 12), (eN 4)]), u_bad2]) Try.func31 (by kernel_rfl) rfl rfl rfl (supers_ok 6 12 4 (badB dd ls ns i j) u_bad2 _ (Ps.no f100) (by have := badB_len dd ls ns i j; first | omega | (simp; done) | (simp; omega)) (by omega) (by omega) (by omega))) ?_
 rintro u103 w101 ⟨ws104, hw105, f106, g107, o102⟩
 replace f106 := f106.less (Y := (Or1 se (Or1 g0 (Old W.heap.size)))) (or1_old a27.lt (or1_old a19.lt (old_old oW.size)))
 replace g107 := g107.less (Y := (Or1 se (Or1 g0 (Old W.heap.size)))) (or1_old a27.lt (or1_old a19.lt (old_old oW.size)))
 replace h1 := h1.step0 o102
 replace h2 := h2.step0 o102
 replace f100 := f100.step0 o102
 replace a19 := a19.step0 o102
 replace a27 := a27.step0 o102
 replace oW := oW.tail0 o102
 replace o29 := o29.tail0 o102
 replace o85 := o85.tail0 o102
 refine wF (zs zf99 0 7 ++ [(ptr g0 0), (eN dd), u_bad2, (ptr se 0), (eN (seenN ls i)), (eN i), (zf99 13), (eN j), (zf99 15), undef, undef] ++ (zs zf99 18 69 ++ [(Value.agg #[(eN 6), (eN 12), (eN 4)]), u_bad2, u103] ++ (zs zf99 90 50))) ?_
 refine wI (d_assign rfl) ?_
 refine wF (zs zf99 0 7 ++ [(ptr g0 0), (eN dd), u_bad2, (ptr se 0), (eN (seenN ls i)), (eN i), (zf99 13), (eN j), u103, undef, undef] ++ (zs zf99 18 69 ++ [(Value.agg #[(eN 6), (eN 12), (eN 4)]), u_bad2, u103] ++ (zs zf99 90 50))) ?_
 refine wpL.done ?_
 refine then_n ?_
 refine wpIn_seq ?_
 refine wpIn_seq ?_
 have sl := seenN_le ls i
 refine plain ?_
 refine wI (d_move rfl) ?_
 refine wI (d_lenS rfl Try.underlying47 rfl f106) ?_
 refine wI (d_move rfl) ?_
 refine wF (zs zf99 0 7 ++ [(ptr g0 0), (eN dd), u_bad2, (ptr se 0), (eN (seenN ls i)), (eN i), (zf99 13), (eN j), u103, undef, undef] ++ (zs zf99 18 69 ++ [(Value.agg #[(eN 6), (eN 12), (eN 4)]), u_bad2, u103, u103, (eN ws104.length), (eN (seenN ls i))] ++ (zs zf99 93 47))) ?_
 refine wI (n_sub (a := 12) (b := (seenN ls i)) rfl rfl (by omega) (by omega)) ?_
 refine wI (n_neq (a := ws104.length) (b := (12 - (seenN ls i))) rfl rfl (by rw [decide_eq_true (by rw [hw105]; exact nMin_seen hdd)] <;> rfl)) ?_
 refine wF (zs zf99 0 7 ++ [(ptr g0 0), (eN dd), u_bad2, (ptr se 0), (eN (seenN ls i)), (eN i), (zf99 13), (eN j), u103, undef, undef] ++ (zs zf99 18 69 ++ [(Value.agg #[(eN 6), (eN 12), (eN 4)]), u_bad2, u103, u103, (eN ws104.length), (eN (seenN ls i)), (eN (12 - (seenN ls i))), (Value.bool false)] ++ (zs zf99 95 45))) ?_
 refine wpL.done ?_
 refine then_n ?_
 refine cond_f rfl ?_
 refine wpIn_skip ?_
 refine then_n ?_
 refine forget (fun zf108 => (zs zf108 0 7 ++ [(ptr g0 0), (eN dd), u_bad2, (ptr se 0), (eN (seenN ls i)), (eN i), (zf108 13), (eN j), u103, undef, undef] ++ (zs zf108 18 122))) (by kernel_rfl) (fun zf108 => ?_)
 refine wpIn_seq ?_
 refine plain ?_
 refine wI (d_assign rfl) ?_
 refine wF (zs zf108 0 7 ++ [(ptr g0 0), (eN dd), u_bad2, (ptr se 0), (eN (seenN ls i)), (eN i), (zf108 13), (eN j), u103, (eN 0), undef] ++ (zs zf108 18 122)) ?_
 refine wpL.done ?_
 refine then_n ?_
 refine wpIn_seq ?_
 refine wpIn_seq ?_
 refine plain ?_
 refine wI (d_assign rfl) ?_
 refine wF (zs zf108 0 7 ++ [(ptr g0 0), (eN dd), u_bad2, (ptr se 0), (eN (seenN ls i)), (eN i), (zf108 13), (eN j), u103, (eN 0), (eN 0)] ++ (zs zf108 18 122)) ?_
 refine wpL.done ?_
 refine then_n ?_
 refine wpIn_block ?_
 refine loop2 (fun (b : (Nat)) => fun (z : Nat → Value) => ((zs zf108 0 6 ++ [(z 6), (ptr g0 0), (eN dd), u_bad2, (ptr se 0), (eN (seenN ls i)), (eN i), (zf108 13), (eN j), u103, (eN ((goodL (badB dd ls ns i j) dd b).length)), (eN b)] ++ (zs zf108 18 77 ++ (zs z 95 39 ++ (zs zf108 134 6)))) : List Value)) (fun (b : (Nat)) => fun (w_ : World) => (b ≤ 12) ∧ Only (Or1 se (Or1 g0 No)) w101 w_ ∧ Arr 25 g0 [(eN 6), (eN 12), (eN 4)] w_ ∧ Arr 56 se ((seenB ls i).map eT) w_) (fun (b : (Nat)) => 12 - b) 0 rfl ?_ ?_
 ·
  refine ⟨?_, ?_, ?_, ?_⟩
  ·
   exact Nat.zero_le _
  ·
   exact Only.refl _ _
  ·
   exact a19
  ·
   exact a27
 rintro b z w110 ⟨hb, o109, a19, a27⟩
 (try dsimp only)
 replace h1 := h1.step o109 (or1_mono (or1_mono no_any))
 replace h2 := h2.step o109 (or1_mono (or1_mono no_any))
 replace f100 := f100.step o109 (or1_mono (or1_mono no_any))
 replace f106 := f106.step o109 (or1_mono (or1_mono no_any))
 replace g107 := g107.step o109 (or1_mono (or1_mono no_any))
 replace oW := oW.tail o109 (tl_new g_oW_se (tl_new g_oW_g0 tl_no))
 replace o29 := o29.tail o109 (tl_in in1 (tl_in (in2 (inq in1)) tl_no))
 replace o85 := o85.tail o109 (tl_in in1 (tl_in (in2 (inq in1)) tl_no))
 refine wpIn_seq ?_
 refine wpIn_seq ?_
 refine plain ?_
 refine wI (d_move rfl) ?_
 refine wI (n_lss (a := b) (b := 12) rfl rfl rfl) ?_
 refine wF (zs zf108 0 6 ++ [(z 6), (ptr g0 0), (eN dd), u_bad2, (ptr se 0), (eN (seenN ls i)), (eN i), (zf108 13), (eN j), u103, (eN ((goodL (badB dd ls ns i j) dd b).length)), (eN b)] ++ (zs zf108 18 77 ++ [(eN b), (Value.bool (decide (b < 12)))] ++ (zs z 97 37 ++ (zs zf108 134 6)))) ?_
 refine wpL.done ?_
 refine then_n ?_
 refine cond_if rfl (fun hb12 => ?_) (fun hb12 => ?_)
 ·
  refine wpIn_skip ?_
  refine then_n ?_
  refine wpIn_seq ?_
  refine wpIn_block ?_
  refine wpIn_seq ?_
  refine wpIn_seq ?_
  by_cases kb : (seenB ls i).getD b false = true
  ·
   refine plain ?_
   refine wI (d_move rfl) ?_
   refine wI (d_indexArr1 (i := b) Try.underlying56 s_ti4 rfl (show _ = Value.int _ ((b : Nat) : Int) from rfl) (by omega)) ?_
   refine wI (dv_to (d_load ⟨_, Try.underlying4, rfl⟩ rfl a27 (m_at (d := false) (by rw [l_se]; omega))) (congrArg Value.bool kb)) ?_
   refine wF (zs zf108 0 6 ++ [(z 6), (ptr g0 0), (eN dd), u_bad2, (ptr se 0), (eN (seenN ls i)), (eN i), (zf108 13), (eN j), u103, (eN ((goodL (badB dd ls ns i j) dd b).length)), (eN b)] ++ (zs zf108 18 77 ++ [(eN b), (Value.bool (decide (b < 12))), (z 97), (z 98), (eN b), (ptr se b), (Value.bool true)] ++ (zs z 102 32 ++ (zs zf108 134 6)))) ?_
   refine wpL.done ?_
   refine then_n ?_
   refine cond_t rfl ?_
   refine wpIn_exit ?_
   refine then_x (inb_e ?_)
   refine then_n ?_
   refine plain ?_
   refine wI (d_move rfl) ?_
   refine wI (n_add (a := b) (b := 1) rfl rfl (by omega)) ?_
   refine wI (d_assign rfl) ?_
   refine wF (zs zf108 0 6 ++ [(z 6), (ptr g0 0), (eN dd), u_bad2, (ptr se 0), (eN (seenN ls i)), (eN i), (zf108 13), (eN j), u103, (eN ((goodL (badB dd ls ns i j) dd b).length)), (eN (b + 1))] ++ (zs zf108 18 77 ++ [(eN b), (Value.bool (decide (b < 12))), (eN b), (eN (b + 1)), (eN b), (ptr se b), (Value.bool true)] ++ (zs z 102 32 ++ (zs zf108 134 6)))) ?_
   refine wpL.done ?_
   refine then_n ?_
   refine ⟨(zs zf108 0 6 ++ [(z 6), (ptr g0 0), (eN dd), u_bad2, (ptr se 0), (eN (seenN ls i)), (eN i), (zf108 13), (eN j), u103, (eN ((goodL (badB dd ls ns i j) dd (b + 1)).length)), (eN (b + 1))] ++ (zs zf108 18 77 ++ [(eN b), (Value.bool (decide (b < 12))), (eN b), (eN (b + 1)), (eN b), (ptr se b), (Value.bool true)] ++ (zs z 102 32 ++ (zs zf108 134 6)))), (b + 1), (congrArg (fun l_ => fr l_ _) (show ((zs zf108 0 6 ++ [(z 6), (ptr g0 0), (eN dd), u_bad2, (ptr se 0), (eN (seenN ls i)), (eN i), (zf108 13), (eN j), u103, (eN ((goodL (badB dd ls ns i j) dd b).length)), (eN (b + 1))] ++ (zs zf108 18 77 ++ [(eN b), (Value.bool (decide (b < 12))), (eN b), (eN (b + 1)), (eN b), (ptr se b), (Value.bool true)] ++ (zs z 102 32 ++ (zs zf108 134 6)))) : List Value) = (zs zf108 0 6 ++ [(z 6), (ptr g0 0), (eN dd), u_bad2, (ptr se 0), (eN (seenN ls i)), (eN i), (zf108 13), (eN j), u103, (eN ((goodL (badB dd ls ns i j) dd (b + 1)).length)), (eN (b + 1))] ++ (zs zf108 18 77 ++ [(eN b), (Value.bool (decide (b < 12))), (eN b), (eN (b + 1)), (eN b), (ptr se b), (Value.bool true)] ++ (zs z 102 32 ++ (zs zf108 134 6)))) from reslot (zs zf108 0 6 ++ [(z 6), (ptr g0 0), (eN dd), u_bad2, (ptr se 0), (eN (seenN ls i)), (eN i), (zf108 13), (eN j), u103, (eN ((goodL (badB dd ls ns i j) dd b).length)), (eN (b + 1))] ++ (zs zf108 18 77 ++ [(eN b), (Value.bool (decide (b < 12))), (eN b), (eN (b + 1)), (eN b), (ptr se b), (Value.bool true)] ++ (zs z 102 32 ++ (zs zf108 134 6)))) 16 (congrArg eN (at_same hdd hb12 kb)))), rfl, ⟨?_, ?_, ?_, ?_⟩, ?_⟩
   ·
    (try dsimp only)
    all_goals (omega)
   ·
    exact o109
   ·
    exact a19
   ·
    exact a27
   ·
    (try dsimp only)
    all_goals (omega)
  refine plain ?_
  refine wI (d_move rfl) ?_
  refine wI (d_indexArr1 (i := b) Try.underlying56 s_ti4 rfl (show _ = Value.int _ ((b : Nat) : Int) from rfl) (by omega)) ?_
  refine wI (dv_to (d_load ⟨_, Try.underlying4, rfl⟩ rfl a27 (m_at (d := false) (by rw [l_se]; omega))) (congrArg Value.bool (Bool.eq_false_iff.2 kb))) ?_
  refine wF (zs zf108 0 6 ++ [(z 6), (ptr g0 0), (eN dd), u_bad2, (ptr se 0), (eN (seenN ls i)), (eN i), (zf108 13), (eN j), u103, (eN ((goodL (badB dd ls ns i j) dd b).length)), (eN b)] ++ (zs zf108 18 77 ++ [(eN b), (Value.bool (decide (b < 12))), (z 97), (z 98), (eN b), (ptr se b), (Value.bool false)] ++ (zs z 102 32 ++ (zs zf108 134 6)))) ?_
  refine wpL.done ?_
  refine then_n ?_
  refine cond_f rfl ?_
  refine wpIn_skip ?_
  refine then_n ?_
  refine wpIn_seq ?_
  refine wpIn_seq ?_
  have hat := at_lt (ns := ns) (i := j) hdd hb12 kb
  have hnm := nMin_seen (ls := ls) (ns := ns) (m := i) (i := j) hdd
  have r111 : Ps (Or1 se (Or1 g0 (Old W.heap.size))) (Seq kN (supR (badB dd ls ns i j) 12 6 ((goodL (badB dd ls ns i j) dd b).length)) (ws104.getD ((goodL (badB dd ls ns i j) dd b).length) undef)) w110 := fam_at g107 (by omega)
  have hsl := supR_len (badB dd ls ns i j) 12 6 (goodL (badB dd ls ns i j) dd b).length
  refine plain ?_
  refine wI (d_move rfl) ?_
  refine wI (d_move rfl) ?_
  refine wI (d_ix (i := ((goodL (badB dd ls ns i j) dd b).length)) (xs := ws104) Try.underlying47 s_ti29 rfl f106 (show _ = Value.int _ (((goodL (badB dd ls ns i j) dd b).length : Nat) : Int) from rfl) (by first | omega | (simp; done) | (simp; omega))) ?_
  refine wF (zs zf108 0 6 ++ [(z 6), (ptr g0 0), (eN dd), u_bad2, (ptr se 0), (eN (seenN ls i)), (eN i), (zf108 13), (eN j), u103, (eN ((goodL (badB dd ls ns i j) dd b).length)), (eN b)] ++ (zs zf108 18 77 ++ [(eN b), (Value.bool (decide (b < 12))), (z 97), (z 98), (eN b), (ptr se b), (Value.bool false), u103, (eN ((goodL (badB dd ls ns i j) dd b).length)), (ixp u103 ((goodL (badB dd ls ns i j) dd b).length))] ++ (zs z 105 29 ++ (zs zf108 134 6)))) ?_
  refine wI (d_ldx (i := ((goodL (badB dd ls ns i j) dd b).length)) (xs := ws104) (enc := eV) (v := (ws104.getD ((goodL (badB dd ls ns i j) dd b).length) undef)) ⟨_, Try.underlying29, rfl⟩ rfl f106 (g_at (by first | omega | (simp; done) | (simp; omega)))) ?_
  refine wI (d_lenS rfl Try.underlying29 rfl r111) ?_
  refine wI (n_neq (a := ((supR (badB dd ls ns i j) 12 6 ((goodL (badB dd ls ns i j) dd b).length)).length)) (b := 6) rfl rfl (by rw [decide_eq_true (supR_len _ _ _ _)] <;> rfl)) ?_
  refine wF (zs zf108 0 6 ++ [(z 6), (ptr g0 0), (eN dd), u_bad2, (ptr se 0), (eN (seenN ls i)), (eN i), (zf108 13), (eN j), u103, (eN ((goodL (badB dd ls ns i j) dd b).length)), (eN b)] ++ (zs zf108 18 77 ++ [(eN b), (Value.bool (decide (b < 12))), (z 97), (z 98), (eN b), (ptr se b), (Value.bool false), u103, (eN ((goodL (badB dd ls ns i j) dd b).length)), (ixp u103 ((goodL (badB dd ls ns i j) dd b).length)), (ws104.getD ((goodL (badB dd ls ns i j) dd b).length) undef), (eN ((supR (badB dd ls ns i j) 12 6 ((goodL (badB dd ls ns i j) dd b).length)).length)), (Value.bool false)] ++ (zs z 108 26 ++ (zs zf108 134 6)))) ?_
  refine wI (d_move rfl) ?_
  refine wpL.onis rfl rfl rfl (nb rfl) rfl (d_move rfl) ?_
  refine wpL.onis rfl rfl rfl (nb rfl) rfl (d_move rfl) ?_
  refine wF (zs zf108 0 6 ++ [(z 6), (ptr g0 0), (eN dd), u_bad2, (ptr se 0), (eN (seenN ls i)), (eN i), (zf108 13), (eN j), u103, (eN ((goodL (badB dd ls ns i j) dd b).length)), (eN b)] ++ (zs zf108 18 77 ++ [(eN b), (Value.bool (decide (b < 12))), (z 97), (z 98), (eN b), (ptr se b), (Value.bool false), u103, (eN ((goodL (badB dd ls ns i j) dd b).length)), (ixp u103 ((goodL (badB dd ls ns i j) dd b).length)), (ws104.getD ((goodL (badB dd ls ns i j) dd b).length) undef), (eN ((supR (badB dd ls ns i j) 12 6 ((goodL (badB dd ls ns i j) dd b).length)).length)), (Value.bool false), (Value.bool false), u103, (eN ((goodL (badB dd ls ns i j) dd b).length))] ++ (zs z 111 23 ++ (zs zf108 134 6)))) ?_
  refine wpL.onis rfl rfl rfl (nb rfl) rfl (d_ix (i := ((goodL (badB dd ls ns i j) dd b).length)) (xs := ws104) Try.underlying47 s_ti29 rfl f106 (show _ = Value.int _ (((goodL (badB dd ls ns i j) dd b).length : Nat) : Int) from rfl) (by first | omega | (simp; done) | (simp; omega))) ?_
  refine wpL.onis rfl rfl rfl (nb rfl) rfl (d_ldx (i := ((goodL (badB dd ls ns i j) dd b).length)) (xs := ws104) (enc := eV) (v := (ws104.getD ((goodL (badB dd ls ns i j) dd b).length) undef)) ⟨_, Try.underlying29, rfl⟩ rfl f106 (g_at (by first | omega | (simp; done) | (simp; omega)))) ?_
  refine wpL.onis rfl rfl rfl (nb rfl) rfl (d_move rfl) ?_
  refine wF (zs zf108 0 6 ++ [(z 6), (ptr g0 0), (eN dd), u_bad2, (ptr se 0), (eN (seenN ls i)), (eN i), (zf108 13), (eN j), u103, (eN ((goodL (badB dd ls ns i j) dd b).length)), (eN b)] ++ (zs zf108 18 77 ++ [(eN b), (Value.bool (decide (b < 12))), (z 97), (z 98), (eN b), (ptr se b), (Value.bool false), u103, (eN ((goodL (badB dd ls ns i j) dd b).length)), (ixp u103 ((goodL (badB dd ls ns i j) dd b).length)), (ws104.getD ((goodL (badB dd ls ns i j) dd b).length) undef), (eN ((supR (badB dd ls ns i j) 12 6 ((goodL (badB dd ls ns i j) dd b).length)).length)), (Value.bool false), (Value.bool false), u103, (eN ((goodL (badB dd ls ns i j) dd b).length)), (ixp u103 ((goodL (badB dd ls ns i j) dd b).length)), (ws104.getD ((goodL (badB dd ls ns i j) dd b).length) undef), (eN dd)] ++ (zs z 114 20 ++ (zs zf108 134 6)))) ?_
  refine wpL.onis rfl rfl rfl (nb rfl) rfl (d_ix (i := dd) (xs := (supR (badB dd ls ns i j) 12 6 ((goodL (badB dd ls ns i j) dd b).length))) Try.underlying29 s_ti3 rfl r111 (show _ = Value.int _ ((dd : Nat) : Int) from rfl) (by have := supR_len (badB dd ls ns i j) 12 6 ((goodL (badB dd ls ns i j) dd b).length); have := badB_len dd ls ns i j; first | omega | (simp; done) | (simp; omega))) ?_
  refine wpL.onis rfl rfl rfl (nb rfl) rfl (d_ldx (i := dd) (xs := (supR (badB dd ls ns i j) 12 6 ((goodL (badB dd ls ns i j) dd b).length))) (enc := eN) (v := ((supR (badB dd ls ns i j) 12 6 ((goodL (badB dd ls ns i j) dd b).length)).getD dd 0)) ⟨_, Try.underlying3, rfl⟩ rfl r111 (g_at (by have := supR_len (badB dd ls ns i j) 12 6 ((goodL (badB dd ls ns i j) dd b).length); have := badB_len dd ls ns i j; first | omega | (simp; done) | (simp; omega)))) ?_
  refine wpL.onis rfl rfl rfl (nb rfl) rfl (d_move rfl) ?_
  refine wF (zs zf108 0 6 ++ [(z 6), (ptr g0 0), (eN dd), u_bad2, (ptr se 0), (eN (seenN ls i)), (eN i), (zf108 13), (eN j), u103, (eN ((goodL (badB dd ls ns i j) dd b).length)), (eN b)] ++ (zs zf108 18 77 ++ [(eN b), (Value.bool (decide (b < 12))), (z 97), (z 98), (eN b), (ptr se b), (Value.bool false), u103, (eN ((goodL (badB dd ls ns i j) dd b).length)), (ixp u103 ((goodL (badB dd ls ns i j) dd b).length)), (ws104.getD ((goodL (badB dd ls ns i j) dd b).length) undef), (eN ((supR (badB dd ls ns i j) 12 6 ((goodL (badB dd ls ns i j) dd b).length)).length)), (Value.bool false), (Value.bool false), u103, (eN ((goodL (badB dd ls ns i j) dd b).length)), (ixp u103 ((goodL (badB dd ls ns i j) dd b).length)), (ws104.getD ((goodL (badB dd ls ns i j) dd b).length) undef), (eN dd), (ixp (ws104.getD ((goodL (badB dd ls ns i j) dd b).length) undef) dd), (eN ((supR (badB dd ls ns i j) 12 6 ((goodL (badB dd ls ns i j) dd b).length)).getD dd 0)), (eN b)] ++ (zs z 117 17 ++ (zs zf108 134 6)))) ?_
  refine wpL.onis rfl rfl rfl (nb rfl) rfl (n_neq (a := ((supR (badB dd ls ns i j) 12 6 ((goodL (badB dd ls ns i j) dd b).length)).getD dd 0)) (b := b) rfl rfl (by rw [decide_eq_true (at_b hdd hb12 kb)] <;> rfl)) ?_
  refine wI (d_pick (b := false) (v := (Value.bool false)) rfl rfl) ?_
  refine wI (d_move rfl) ?_
  refine wF (zs zf108 0 6 ++ [(z 6), (ptr g0 0), (eN dd), u_bad2, (ptr se 0), (eN (seenN ls i)), (eN i), (zf108 13), (eN j), u103, (eN ((goodL (badB dd ls ns i j) dd b).length)), (eN b)] ++ (zs zf108 18 77 ++ [(eN b), (Value.bool (decide (b < 12))), (z 97), (z 98), (eN b), (ptr se b), (Value.bool false), u103, (eN ((goodL (badB dd ls ns i j) dd b).length)), (ixp u103 ((goodL (badB dd ls ns i j) dd b).length)), (ws104.getD ((goodL (badB dd ls ns i j) dd b).length) undef), (eN ((supR (badB dd ls ns i j) 12 6 ((goodL (badB dd ls ns i j) dd b).length)).length)), (Value.bool false), (Value.bool false), u103, (eN ((goodL (badB dd ls ns i j) dd b).length)), (ixp u103 ((goodL (badB dd ls ns i j) dd b).length)), (ws104.getD ((goodL (badB dd ls ns i j) dd b).length) undef), (eN dd), (ixp (ws104.getD ((goodL (badB dd ls ns i j) dd b).length) undef) dd), (eN ((supR (badB dd ls ns i j) 12 6 ((goodL (badB dd ls ns i j) dd b).length)).getD dd 0)), (eN b), (Value.bool false), (Value.bool false), (Value.bool false)] ++ (zs z 120 14 ++ (zs zf108 134 6)))) ?_
  refine wpL.onis rfl rfl rfl (nb rfl) rfl (d_move rfl) ?_
  refine wpL.onis rfl rfl rfl (nb rfl) rfl (d_move rfl) ?_
  refine wpL.onis rfl rfl rfl (nb rfl) rfl (d_ix (i := ((goodL (badB dd ls ns i j) dd b).length)) (xs := ws104) Try.underlying47 s_ti29 rfl f106 (show _ = Value.int _ (((goodL (badB dd ls ns i j) dd b).length : Nat) : Int) from rfl) (by first | omega | (simp; done) | (simp; omega))) ?_
  refine wF (zs zf108 0 6 ++ [(z 6), (ptr g0 0), (eN dd), u_bad2, (ptr se 0), (eN (seenN ls i)), (eN i), (zf108 13), (eN j), u103, (eN ((goodL (badB dd ls ns i j) dd b).length)), (eN b)] ++ (zs zf108 18 77 ++ [(eN b), (Value.bool (decide (b < 12))), (z 97), (z 98), (eN b), (ptr se b), (Value.bool false), u103, (eN ((goodL (badB dd ls ns i j) dd b).length)), (ixp u103 ((goodL (badB dd ls ns i j) dd b).length)), (ws104.getD ((goodL (badB dd ls ns i j) dd b).length) undef), (eN ((supR (badB dd ls ns i j) 12 6 ((goodL (badB dd ls ns i j) dd b).length)).length)), (Value.bool false), (Value.bool false), u103, (eN ((goodL (badB dd ls ns i j) dd b).length)), (ixp u103 ((goodL (badB dd ls ns i j) dd b).length)), (ws104.getD ((goodL (badB dd ls ns i j) dd b).length) undef), (eN dd), (ixp (ws104.getD ((goodL (badB dd ls ns i j) dd b).length) undef) dd), (eN ((supR (badB dd ls ns i j) 12 6 ((goodL (badB dd ls ns i j) dd b).length)).getD dd 0)), (eN b), (Value.bool false), (Value.bool false), (Value.bool false), u103, (eN ((goodL (badB dd ls ns i j) dd b).length)), (ixp u103 ((goodL (badB dd ls ns i j) dd b).length))] ++ (zs z 123 11 ++ (zs zf108 134 6)))) ?_
  refine wpL.onis rfl rfl rfl (nb rfl) rfl (d_ldx (i := ((goodL (badB dd ls ns i j) dd b).length)) (xs := ws104) (enc := eV) (v := (ws104.getD ((goodL (badB dd ls ns i j) dd b).length) undef)) ⟨_, Try.underlying29, rfl⟩ rfl f106 (g_at (by first | omega | (simp; done) | (simp; omega)))) ?_
  refine wpL.onis rfl rfl rfl (nb rfl) rfl (d_move rfl) ?_
  refine wpL.onis rfl rfl rfl (nb rfl) rfl (n_add (a := dd) (b := 1) rfl rfl (by omega)) ?_
  refine wF (zs zf108 0 6 ++ [(z 6), (ptr g0 0), (eN dd), u_bad2, (ptr se 0), (eN (seenN ls i)), (eN i), (zf108 13), (eN j), u103, (eN ((goodL (badB dd ls ns i j) dd b).length)), (eN b)] ++ (zs zf108 18 77 ++ [(eN b), (Value.bool (decide (b < 12))), (z 97), (z 98), (eN b), (ptr se b), (Value.bool false), u103, (eN ((goodL (badB dd ls ns i j) dd b).length)), (ixp u103 ((goodL (badB dd ls ns i j) dd b).length)), (ws104.getD ((goodL (badB dd ls ns i j) dd b).length) undef), (eN ((supR (badB dd ls ns i j) 12 6 ((goodL (badB dd ls ns i j) dd b).length)).length)), (Value.bool false), (Value.bool false), u103, (eN ((goodL (badB dd ls ns i j) dd b).length)), (ixp u103 ((goodL (badB dd ls ns i j) dd b).length)), (ws104.getD ((goodL (badB dd ls ns i j) dd b).length) undef), (eN dd), (ixp (ws104.getD ((goodL (badB dd ls ns i j) dd b).length) undef) dd), (eN ((supR (badB dd ls ns i j) 12 6 ((goodL (badB dd ls ns i j) dd b).length)).getD dd 0)), (eN b), (Value.bool false), (Value.bool false), (Value.bool false), u103, (eN ((goodL (badB dd ls ns i j) dd b).length)), (ixp u103 ((goodL (badB dd ls ns i j) dd b).length)), (ws104.getD ((goodL (badB dd ls ns i j) dd b).length) undef), (eN dd), (eN (dd + 1))] ++ (zs z 126 8 ++ (zs zf108 134 6)))) ?_
  refine wpL.onis rfl rfl rfl (nb rfl) rfl (n_rem (a := (dd + 1)) (b := 6) rfl rfl (by decide)) ?_
  refine wpL.onis rfl rfl rfl (nb rfl) rfl (d_ix (i := ((dd + 1) % 6)) (xs := (supR (badB dd ls ns i j) 12 6 ((goodL (badB dd ls ns i j) dd b).length))) Try.underlying29 s_ti3 rfl r111 (show _ = Value.int _ (((dd + 1) % 6 : Nat) : Int) from rfl) (by have := supR_len (badB dd ls ns i j) 12 6 ((goodL (badB dd ls ns i j) dd b).length); have := badB_len dd ls ns i j; first | omega | (simp; done) | (simp; omega))) ?_
  refine wpL.onis rfl rfl rfl (nb rfl) rfl (d_ldx (i := ((dd + 1) % 6)) (xs := (supR (badB dd ls ns i j) 12 6 ((goodL (badB dd ls ns i j) dd b).length))) (enc := eN) (v := ((supR (badB dd ls ns i j) 12 6 ((goodL (badB dd ls ns i j) dd b).length)).getD ((dd + 1) % 6) 0)) ⟨_, Try.underlying3, rfl⟩ rfl r111 (g_at (by have := supR_len (badB dd ls ns i j) 12 6 ((goodL (badB dd ls ns i j) dd b).length); have := badB_len dd ls ns i j; first | omega | (simp; done) | (simp; omega)))) ?_
  refine wF (zs zf108 0 6 ++ [(z 6), (ptr g0 0), (eN dd), u_bad2, (ptr se 0), (eN (seenN ls i)), (eN i), (zf108 13), (eN j), u103, (eN ((goodL (badB dd ls ns i j) dd b).length)), (eN b)] ++ (zs zf108 18 77 ++ [(eN b), (Value.bool (decide (b < 12))), (z 97), (z 98), (eN b), (ptr se b), (Value.bool false), u103, (eN ((goodL (badB dd ls ns i j) dd b).length)), (ixp u103 ((goodL (badB dd ls ns i j) dd b).length)), (ws104.getD ((goodL (badB dd ls ns i j) dd b).length) undef), (eN ((supR (badB dd ls ns i j) 12 6 ((goodL (badB dd ls ns i j) dd b).length)).length)), (Value.bool false), (Value.bool false), u103, (eN ((goodL (badB dd ls ns i j) dd b).length)), (ixp u103 ((goodL (badB dd ls ns i j) dd b).length)), (ws104.getD ((goodL (badB dd ls ns i j) dd b).length) undef), (eN dd), (ixp (ws104.getD ((goodL (badB dd ls ns i j) dd b).length) undef) dd), (eN ((supR (badB dd ls ns i j) 12 6 ((goodL (badB dd ls ns i j) dd b).length)).getD dd 0)), (eN b), (Value.bool false), (Value.bool false), (Value.bool false), u103, (eN ((goodL (badB dd ls ns i j) dd b).length)), (ixp u103 ((goodL (badB dd ls ns i j) dd b).length)), (ws104.getD ((goodL (badB dd ls ns i j) dd b).length) undef), (eN dd), (eN (dd + 1)), (eN ((dd + 1) % 6)), (ixp (ws104.getD ((goodL (badB dd ls ns i j) dd b).length) undef) ((dd + 1) % 6)), (eN ((supR (badB dd ls ns i j) 12 6 ((goodL (badB dd ls ns i j) dd b).length)).getD ((dd + 1) % 6) 0))] ++ (zs z 129 5 ++ (zs zf108 134 6)))) ?_
  refine wpL.onis rfl rfl rfl (nb rfl) rfl (d_move rfl) ?_
  refine wpL.onis rfl rfl rfl (nb rfl) rfl (n_neq (a := ((supR (badB dd ls ns i j) 12 6 ((goodL (badB dd ls ns i j) dd b).length)).getD ((dd + 1) % 6) 0)) (b := ((goodL (badB dd ls ns i j) dd b).length)) rfl rfl (by rw [decide_eq_true (at_else hdd hb12 kb)] <;> rfl)) ?_
  refine wI (d_pick (b := false) (v := (Value.bool false)) rfl rfl) ?_
  refine wF (zs zf108 0 6 ++ [(z 6), (ptr g0 0), (eN dd), u_bad2, (ptr se 0), (eN (seenN ls i)), (eN i), (zf108 13), (eN j), u103, (eN ((goodL (badB dd ls ns i j) dd b).length)), (eN b)] ++ (zs zf108 18 77 ++ [(eN b), (Value.bool (decide (b < 12))), (z 97), (z 98), (eN b), (ptr se b), (Value.bool false), u103, (eN ((goodL (badB dd ls ns i j) dd b).length)), (ixp u103 ((goodL (badB dd ls ns i j) dd b).length)), (ws104.getD ((goodL (badB dd ls ns i j) dd b).length) undef), (eN ((supR (badB dd ls ns i j) 12 6 ((goodL (badB dd ls ns i j) dd b).length)).length)), (Value.bool false), (Value.bool false), u103, (eN ((goodL (badB dd ls ns i j) dd b).length)), (ixp u103 ((goodL (badB dd ls ns i j) dd b).length)), (ws104.getD ((goodL (badB dd ls ns i j) dd b).length) undef), (eN dd), (ixp (ws104.getD ((goodL (badB dd ls ns i j) dd b).length) undef) dd), (eN ((supR (badB dd ls ns i j) 12 6 ((goodL (badB dd ls ns i j) dd b).length)).getD dd 0)), (eN b), (Value.bool false), (Value.bool false), (Value.bool false), u103, (eN ((goodL (badB dd ls ns i j) dd b).length)), (ixp u103 ((goodL (badB dd ls ns i j) dd b).length)), (ws104.getD ((goodL (badB dd ls ns i j) dd b).length) undef), (eN dd), (eN (dd + 1)), (eN ((dd + 1) % 6)), (ixp (ws104.getD ((goodL (badB dd ls ns i j) dd b).length) undef) ((dd + 1) % 6)), (eN ((supR (badB dd ls ns i j) 12 6 ((goodL (badB dd ls ns i j) dd b).length)).getD ((dd + 1) % 6) 0)), (eN ((goodL (badB dd ls ns i j) dd b).length)), (Value.bool false), (Value.bool false), (z 132), (z 133)] ++ (zs zf108 134 6))) ?_
  refine wpL.done ?_
  refine then_n ?_
  refine forget (fun zf112 => (zs zf108 0 6 ++ [(zf112 6), (ptr g0 0), (eN dd), u_bad2, (ptr se 0), (eN (seenN ls i)), (eN i), (zf108 13), (eN j), u103, (eN ((goodL (badB dd ls ns i j) dd b).length)), (eN b)] ++ (zs zf108 18 77 ++ (zs zf112 95 36 ++ [(Value.bool false), (zf112 132), (zf112 133)] ++ (zs zf108 134 6))))) (by kernel_rfl) (fun zf112 => ?_)
  refine cond_f rfl ?_
  refine wpIn_skip ?_
  refine then_n ?_
  refine plain ?_
  refine wI (d_move rfl) ?_
  refine wI (n_add (a := ((goodL (badB dd ls ns i j) dd b).length)) (b := 1) rfl rfl (by omega)) ?_
  refine wI (d_assign rfl) ?_
  refine wF (zs zf108 0 6 ++ [(zf112 6), (ptr g0 0), (eN dd), u_bad2, (ptr se 0), (eN (seenN ls i)), (eN i), (zf108 13), (eN j), u103, (eN ((goodL (badB dd ls ns i j) dd b).length + 1)), (eN b)] ++ (zs zf108 18 77 ++ (zs zf112 95 36 ++ [(Value.bool false), (eN ((goodL (badB dd ls ns i j) dd b).length)), (eN ((goodL (badB dd ls ns i j) dd b).length + 1))] ++ (zs zf108 134 6)))) ?_
  refine wpL.done ?_
  refine inb_n (then_n ?_)
  refine plain ?_
  refine wI (d_move rfl) ?_
  refine wI (n_add (a := b) (b := 1) rfl rfl (by omega)) ?_
  refine wI (d_assign rfl) ?_
  refine wF (zs zf108 0 6 ++ [(zf112 6), (ptr g0 0), (eN dd), u_bad2, (ptr se 0), (eN (seenN ls i)), (eN i), (zf108 13), (eN j), u103, (eN ((goodL (badB dd ls ns i j) dd b).length + 1)), (eN (b + 1))] ++ (zs zf108 18 77 ++ [(zf112 95), (zf112 96), (eN b), (eN (b + 1))] ++ (zs zf112 99 32 ++ [(Value.bool false), (eN ((goodL (badB dd ls ns i j) dd b).length)), (eN ((goodL (badB dd ls ns i j) dd b).length + 1))] ++ (zs zf108 134 6)))) ?_
  refine wpL.done ?_
  refine then_n ?_
  refine ⟨(zs zf108 0 6 ++ [(zf112 6), (ptr g0 0), (eN dd), u_bad2, (ptr se 0), (eN (seenN ls i)), (eN i), (zf108 13), (eN j), u103, (eN ((goodL (badB dd ls ns i j) dd (b + 1)).length)), (eN (b + 1))] ++ (zs zf108 18 77 ++ [(zf112 95), (zf112 96), (eN b), (eN (b + 1))] ++ (zs zf112 99 32 ++ [(Value.bool false), (eN ((goodL (badB dd ls ns i j) dd b).length)), (eN ((goodL (badB dd ls ns i j) dd b).length + 1))] ++ (zs zf108 134 6)))), (b + 1), (congrArg (fun l_ => fr l_ _) (show ((zs zf108 0 6 ++ [(zf112 6), (ptr g0 0), (eN dd), u_bad2, (ptr se 0), (eN (seenN ls i)), (eN i), (zf108 13), (eN j), u103, (eN ((goodL (badB dd ls ns i j) dd b).length + 1)), (eN (b + 1))] ++ (zs zf108 18 77 ++ [(zf112 95), (zf112 96), (eN b), (eN (b + 1))] ++ (zs zf112 99 32 ++ [(Value.bool false), (eN ((goodL (badB dd ls ns i j) dd b).length)), (eN ((goodL (badB dd ls ns i j) dd b).length + 1))] ++ (zs zf108 134 6)))) : List Value) = (zs zf108 0 6 ++ [(zf112 6), (ptr g0 0), (eN dd), u_bad2, (ptr se 0), (eN (seenN ls i)), (eN i), (zf108 13), (eN j), u103, (eN ((goodL (badB dd ls ns i j) dd (b + 1)).length)), (eN (b + 1))] ++ (zs zf108 18 77 ++ [(zf112 95), (zf112 96), (eN b), (eN (b + 1))] ++ (zs zf112 99 32 ++ [(Value.bool false), (eN ((goodL (badB dd ls ns i j) dd b).length)), (eN ((goodL (badB dd ls ns i j) dd b).length + 1))] ++ (zs zf108 134 6)))) from reslot (zs zf108 0 6 ++ [(zf112 6), (ptr g0 0), (eN dd), u_bad2, (ptr se 0), (eN (seenN ls i)), (eN i), (zf108 13), (eN j), u103, (eN ((goodL (badB dd ls ns i j) dd b).length + 1)), (eN (b + 1))] ++ (zs zf108 18 77 ++ [(zf112 95), (zf112 96), (eN b), (eN (b + 1))] ++ (zs zf112 99 32 ++ [(Value.bool false), (eN ((goodL (badB dd ls ns i j) dd b).length)), (eN ((goodL (badB dd ls ns i j) dd b).length + 1))] ++ (zs zf108 134 6)))) 16 (congrArg eN (at_next hdd hb12 kb)))), rfl, ⟨?_, ?_, ?_, ?_⟩, ?_⟩
  ·
   (try dsimp only)
   all_goals (omega)
  ·
   exact o109
  ·
   exact a19
  ·
   exact a27
  ·
   (try dsimp only)
   all_goals (omega)
 refine wpIn_exit ?_
 refine then_x (then_x (inb_e ?_))
 refine then_n ?_
 refine wpIn_seq ?_
 have hb_ : b = 12 := by omega
 refine plain ?_
 refine wI (d_loadAg (vs := [(eN 6), (eN 12), (eN 4)]) ⟨_, Try.underlying25, rfl⟩ s_ti25 rfl a19 rfl rfl) ?_
 refine wI (d_move rfl) ?_
 refine wO (d_call (xl := [.tmp 134, .tmp 135]) (al := [(Value.agg #[(eN 6), (eN 12), (eN 4)]), u_bad2]) Try.func32 (by kernel_rfl) rfl rfl rfl (ref9Supers_ok 6 12 4 (badB dd ls ns i j) u_bad2 _ (Ps.no f100) (by have := badB_len dd ls ns i j; first | omega | (simp; done) | (simp; omega)) (by omega) (by omega) (by omega))) ?_
 rintro u115 w113 ⟨ws116, hw117, f118, g119, o114⟩
 replace f118 := f118.less (Y := (Or1 se (Or1 g0 (Old W.heap.size)))) (or1_old a27.lt (or1_old a19.lt (old_old oW.size)))
 replace g119 := g119.less (Y := (Or1 se (Or1 g0 (Old W.heap.size)))) (or1_old a27.lt (or1_old a19.lt (old_old oW.size)))
 replace h1 := h1.step0 o114
 replace h2 := h2.step0 o114
 replace f100 := f100.step0 o114
 replace f106 := f106.step0 o114
 replace g107 := g107.step0 o114
 replace a19 := a19.step0 o114
 replace a27 := a27.step0 o114
 replace oW := oW.tail0 o114
 replace o29 := o29.tail0 o114
 replace o85 := o85.tail0 o114
 replace o109 := o109.tail0 o114
 refine wF (zs zf108 0 6 ++ [(z 6), (ptr g0 0), (eN dd), u_bad2, (ptr se 0), (eN (seenN ls i)), (eN i), (zf108 13), (eN j), u103, (eN ((goodL (badB dd ls ns i j) dd b).length)), (eN b)] ++ (zs zf108 18 77 ++ [(eN b), (Value.bool (decide (b < 12)))] ++ (zs z 97 37 ++ [(Value.agg #[(eN 6), (eN 12), (eN 4)]), u_bad2, u115, (zf108 137), (zf108 138), (zf108 139)]))) ?_
 refine wI (d_lenS rfl Try.underlying47 rfl f118) ?_
 refine wI (d_move rfl) ?_
 refine wI (n_eql (a := ws116.length) (b := ((goodL (badB dd ls ns i j) dd b).length)) rfl rfl (decide_eq_true (by rw [hw117, nMin_seen hdd, hb_, good_seen hdd]))) ?_
 refine wF (zs zf108 0 6 ++ [(z 6), (ptr g0 0), (eN dd), u_bad2, (ptr se 0), (eN (seenN ls i)), (eN i), (zf108 13), (eN j), u103, (eN ((goodL (badB dd ls ns i j) dd b).length)), (eN b)] ++ (zs zf108 18 77 ++ [(eN b), (Value.bool (decide (b < 12)))] ++ (zs z 97 37 ++ [(Value.agg #[(eN 6), (eN 12), (eN 4)]), u_bad2, u115, (eN ws116.length), (eN ((goodL (badB dd ls ns i j) dd b).length)), (Value.bool true)]))) ?_
 refine wI (d_assign rfl) ?_
 refine wF (zs zf108 0 6 ++ [(Value.bool true), (ptr g0 0), (eN dd), u_bad2, (ptr se 0), (eN (seenN ls i)), (eN i), (zf108 13), (eN j), u103, (eN ((goodL (badB dd ls ns i j) dd b).length)), (eN b)] ++ (zs zf108 18 77 ++ [(eN b), (Value.bool (decide (b < 12)))] ++ (zs z 97 37 ++ [(Value.agg #[(eN 6), (eN 12), (eN 4)]), u_bad2, u115, (eN ws116.length), (eN ((goodL (badB dd ls ns i j) dd b).length)), (Value.bool true)]))) ?_
 refine wpL.done ?_
 refine then_n ?_
 refine forget (fun zf120 => (zs zf120 0 6 ++ [(Value.bool true), (zf120 7), (zf120 8), u_bad2, (zf120 10), (eN (seenN ls i)), (eN i), (zf120 13), (eN j), (zf120 15), (eN ((goodL (badB dd ls ns i j) dd b).length)), (eN b)] ++ (zs zf120 18 122))) (by kernel_rfl) (fun zf120 => ?_)
 refine wpIn_ret ?_
 refine leave0 (v := (Value.bool true)) (res1 Try.results14 rfl) ?_
 exact ⟨rfl, oW⟩

end Go.Proofs.YtnlbekdjepkhcaaF
