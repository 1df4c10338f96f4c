import Derived.Test.YtgalehapmdabeaaFz
import Derived.Test.YtgalehapmdabeaaTy
import Derived.Test.YtgalehapmdabeaaHpgu
set_option linter.unusedVariables false
set_option linter.unusedSimpArgs false
namespace Go.Proofs.YtgalehapmdabeaaF
open Go Go.Shelf Go.Proofs.YtgalehapmdabeaaS Ram
set_option maxRecDepth 20000 in
set_option maxHeartbeats 4000000 in
theorem pageHalves_law (la : List UInt8) (lb : List UInt8) (ll : List Int) (bh : Bool) (u1 : Value) (u2 : Value) (u3 : Value) (W : World) (h1 : Ps No (Seq kB la u1) W) (h2 : Ps No (Seq kB lb u2) W) (h3 : Ps No (Seq kI ll u3) W) (g1 : la.length ≤ 140737488351232) (g2 : lb.length ≤ 140737488351232) (g3 : ll.length ≤ 17592186043904) :
    CW Try.prog 6 #[u1, u2, u3, (Value.bool bh)] W (Rt (RIs (.bool true) W)) := by
 have oW : Only No W W := Only.refl _ _
 refine enter (al := [u1, u2, u3, (Value.bool bh)]) (k := 72) (l := ([u1, u2, u3, (Value.bool bh)] ++ (us 72))) Try.func6 rfl Try.ntmps6 rfl rfl ?_
 refine wpIn_seq ?_
 refine plain ?_
 refine wI (d_assign rfl) ?_
 refine wF ([u1, u2, u3, (Value.bool bh), undef, undef, undef, undef, (Value.bool false)] ++ (us 67)) ?_
 refine wpL.done ?_
 refine then_n ?_
 refine wpIn_seq ?_
 refine wpIn_seq ?_
 refine plain ?_
 refine wO (d_call (xl := []) (al := []) Try.func14 (by kernel_rfl) rfl rfl rfl (l8known_ok _)) ?_
 rintro _ w11 ⟨rfl, o12⟩
 replace h1 := h1.step0 o12
 replace h2 := h2.step0 o12
 replace h3 := h3.step0 o12
 replace oW := oW.tail0 o12
 refine wI (d_not rfl rfl) ?_
 refine wF ([u1, u2, u3, (Value.bool bh), undef, undef, undef, undef, (Value.bool false)] ++ (us 8 ++ [(Value.bool true), (Value.bool false)] ++ (us 57))) ?_
 refine wpL.done ?_
 refine then_n ?_
 refine cond_f rfl ?_
 refine wpIn_skip ?_
 refine then_n ?_
 refine wpIn_seq ?_
 refine plain ?_
 refine wI (d_move rfl) ?_
 refine wO (d_call (xl := [.tmp 19, .const (.int .i64 24)]) (al := [u1, (eN 24)]) Try.func15 (by kernel_rfl) rfl rfl rfl (l4Data_ok la 24 u1 _ (Ps.no h1) (by omega))) ?_
 rintro u15 w13 f16
 replace f16 := f16.ps
 obtain ⟨f16, o14⟩ := f16
 replace f16 := f16.less (Y := (Old W.heap.size)) (old_old oW.size)
 replace h1 := h1.step0 o14
 replace h2 := h2.step0 o14
 replace h3 := h3.step0 o14
 replace oW := oW.tail0 o14
 refine wI (d_move rfl) ?_
 refine wF ([u1, u2, u3, (Value.bool bh), undef, undef, undef, undef, (Value.bool false)] ++ (us 8 ++ [(Value.bool true), (Value.bool false), u1, u15, u2] ++ (us 54))) ?_
 refine wO (d_call (xl := [.tmp 21, .const (.int .i64 24)]) (al := [u2, (eN 24)]) Try.func15 (by kernel_rfl) rfl rfl rfl (l4Data_ok lb 24 u2 _ (Ps.no h2) (by omega))) ?_
 rintro u19 w17 f20
 replace f20 := f20.ps
 obtain ⟨f20, o18⟩ := f20
 replace f20 := f20.less (Y := (Old W.heap.size)) (old_old oW.size)
 replace h1 := h1.step0 o18
 replace h2 := h2.step0 o18
 replace h3 := h3.step0 o18
 replace f16 := f16.step0 o18
 replace oW := oW.tail0 o18
 refine wI (d_assign rfl) ?_
 refine wI (d_assign rfl) ?_
 refine wF ([u1, u2, u3, (Value.bool bh), undef, undef, undef, undef, (Value.bool false), u15, u19] ++ (us 6 ++ [(Value.bool true), (Value.bool false), u1, u15, u2, u19] ++ (us 53))) ?_
 refine wpL.done ?_
 refine then_n ?_
 refine wpIn_seq ?_
 refine plain ?_
 refine wO (d_buildL (cs := []) Try.underlying22 s_ti5 rfl (nb rfl) parts_nil rfl) ?_
 rintro _ w22 ⟨b21, rfl, g23, a24, o25⟩
 replace a24 : Arr 5 b21 (([] : List UInt8).map eB) w22 := a24
 have l_b21 : ([] : List UInt8).length = 0 := rfl
 have g_oW_b21 : W.heap.size ≤ b21 := Nat.le_trans oW.size g23
 replace h1 := h1.new o25 g23
 replace h2 := h2.new o25 g23
 replace h3 := h3.new o25 g23
 replace f16 := f16.new o25 g23
 replace f20 := f20.new o25 g23
 replace oW := oW.tail0 o25
 refine wI (d_move rfl) ?_
 have a26 := Ow.of_map2 a24 l_b21
 have q_oW_d : Fr (some b21) none W.heap.size := Fr.new g_oW_b21
 replace h1 := h1.less (Y := (Orq (some b21) No)) (xx_br xx_id)
 replace h2 := h2.less (Y := (Orq (some b21) No)) (xx_br xx_id)
 replace h3 := h3.less (Y := (Orq (some b21) No)) (xx_br xx_id)
 replace f16 := f16.less (Y := (Orq (some b21) (Old W.heap.size))) (xx_br xx_id)
 replace f20 := f20.less (Y := (Orq (some b21) (Old W.heap.size))) (xx_br xx_id)
 refine wO (d_append Try.underlying22 Try.underlying22 s_ti5 rfl rfl rfl a26 (SrcV.of_seq f16 (fun _ => rfl)) (by simp [dataL_length]) (by simp [dataL_length]) rfl) ?_
 rintro u27 w28 ⟨bo29, a30, o31, q32⟩
 replace a30 : Ow 5 1 bo29 u27 (dataL la 24).length ((dataL la 24).map eB) w28 := by simpa using a30
 replace h1 := h1.gr o31 (fun k e => (.inl e)) (xx_re (Fr.of_or q32) xx_id)
 replace h2 := h2.gr o31 (fun k e => (.inl e)) (xx_re (Fr.of_or q32) xx_id)
 replace h3 := h3.gr o31 (fun k e => (.inl e)) (xx_re (Fr.of_or q32) xx_id)
 replace f16 := f16.gr o31 (fun k e => (.inl e)) (xx_re (Fr.of_or q32) xx_id)
 replace f20 := f20.gr o31 (fun k e => (.inl e)) (xx_re (Fr.of_or q32) xx_id)
 have tq := oW.size
 replace oW := oW.tailr o31 q_oW_d (fun _ e => by cases e)
 replace q_oW_d := qtr (Fr.of_or q32) q_oW_d tq
 clear tq
 refine wF ([u1, u2, u3, (Value.bool bh), undef, undef, undef, undef, (Value.bool false), u15, u19] ++ (us 6 ++ [(Value.bool true), (Value.bool false), u1, u15, u2, u19, (sli b21 0 0 0), u15, u27] ++ (us 50))) ?_
 refine wI (d_move rfl) ?_
 refine wO (d_append Try.underlying22 Try.underlying22 s_ti5 rfl rfl rfl a30 (SrcV.of_seq f20 (fun _ => rfl)) (by simp [dataL_length]) (by simp [dataL_length]) rfl) ?_
 rintro u33 w34 ⟨bo35, a36, o37, q38⟩
 replace a36 : Ow 5 1 bo35 u33 ((dataL la 24) ++ (dataL lb 24)).length (((dataL la 24) ++ (dataL lb 24)).map eB) w34 := by rw [List.length_append, List.map_append]; exact a36
 replace h1 := h1.gr o37 (fun k e => (.inl e)) (xx_re (Fr.of_or q38) xx_id)
 replace h2 := h2.gr o37 (fun k e => (.inl e)) (xx_re (Fr.of_or q38) xx_id)
 replace h3 := h3.gr o37 (fun k e => (.inl e)) (xx_re (Fr.of_or q38) xx_id)
 replace f16 := f16.gr o37 (fun k e => (.inl e)) (xx_re (Fr.of_or q38) xx_id)
 replace f20 := f20.gr o37 (fun k e => (.inl e)) (xx_re (Fr.of_or q38) xx_id)
 have tq := oW.size
 replace oW := oW.tailr o37 q_oW_d (fun _ e => by cases e)
 replace q_oW_d := qtr (Fr.of_or q38) q_oW_d tq
 clear tq
 refine wI (d_assign rfl) ?_
 refine wF ([u1, u2, u3, (Value.bool bh), undef, undef, undef, undef, (Value.bool false), u15, u19, u33] ++ (us 5 ++ [(Value.bool true), (Value.bool false), u1, u15, u2, u19, (sli b21 0 0 0), u15, u27, u19, u33] ++ (us 48))) ?_
 refine wpL.done ?_
 have hd_ : (dataL la 24 ++ dataL lb 24).length = 48 := by rw [List.length_append, dataL_length, dataL_length]
 refine then_n ?_
 refine wpIn_seq ?_
 refine plain ?_
 refine wI (d_move rfl) ?_
 refine wO (d_call (xl := [.tmp 28]) (al := [u33]) Try.func16 (by kernel_rfl) rfl rfl rfl (pageEncode_ok ((dataL la 24) ++ (dataL lb 24)) u33 _ (Ps.no (a36.seq (X := No) (fun _ _ h => h))) (by have := dataL_length la 24; have := dataL_length lb 24; first | omega | (simp; done) | (simp; omega)))) ?_
 rintro u41 w39 f42
 replace f42 := f42.ps
 obtain ⟨f42, o40⟩ := f42
 replace f42 := f42.less (Y := (Orq bo35 (Old W.heap.size))) (orq_old a36.lts (old_old oW.size))
 replace h1 := h1.step0 o40
 replace h2 := h2.step0 o40
 replace h3 := h3.step0 o40
 replace f16 := f16.step0 o40
 replace f20 := f20.step0 o40
 replace a36 := a36.step0 o40
 replace oW := oW.tail0 o40
 refine wI (d_assign rfl) ?_
 refine wF ([u1, u2, u3, (Value.bool bh), undef, undef, undef, undef, (Value.bool false), u15, u19, u33, u41, undef, undef, undef, undef, (Value.bool true), (Value.bool false), u1, u15, u2, u19, (sli b21 0 0 0), u15, u27, u19, u33, u33, u41] ++ (us 46)) ?_
 refine wpL.done ?_
 refine then_n ?_
 refine wpIn_seq ?_
 refine wpIn_seq ?_
 refine plain ?_
 refine wI (d_move rfl) ?_
 refine wI (d_lenS rfl Try.underlying22 rfl f42) ?_
 refine wI (n_neq (a := ((pgE ((dataL la 24) ++ (dataL lb 24))).length)) (b := 60) rfl rfl (by rw [decide_eq_true (pgE_length hd_)] <;> rfl)) ?_
 refine wF ([u1, u2, u3, (Value.bool bh), undef, undef, undef, undef, (Value.bool false), u15, u19, u33, u41, undef, undef, undef, undef, (Value.bool true), (Value.bool false), u1, u15, u2, u19, (sli b21 0 0 0), u15, u27, u19, u33, u33, u41, u41, (eN ((pgE ((dataL la 24) ++ (dataL lb 24))).length)), (Value.bool false)] ++ (us 43)) ?_
 refine wpL.done ?_
 refine then_n ?_
 refine cond_f rfl ?_
 refine wpIn_skip ?_
 refine then_n ?_
 refine wpIn_seq ?_
 refine plain ?_
 refine wI (d_move rfl) ?_
 refine wO (d_call (xl := [.tmp 33, .const (.int .i64 224), .const (.int .i64 5)]) (al := [u3, (eN 224), (eN 5)]) Try.func19 (by kernel_rfl) rfl rfl rfl (l4Places_ok ll 224 5 u3 _ (Ps.no h3) (by omega) (by omega) (by omega) (by omega))) ?_
 rintro u45 w43 f46
 obtain ⟨bo47, f46, g48, o44⟩ := f46
 have nqq_d_at := nqq_new g48 a36.lts
 have q_oW_at := qnew g48 oW.size
 replace h1 := h1.newq o44 g48
 replace h2 := h2.newq o44 g48
 replace h3 := h3.newq o44 g48
 replace f16 := f16.newq o44 g48
 replace f20 := f20.newq o44 g48
 replace f42 := f42.newq o44 g48
 replace a36 := a36.step0 o44
 replace oW := oW.tail0 o44
 refine wI (d_assign rfl) ?_
 refine wF ([u1, u2, u3, (Value.bool bh), undef, undef, undef, undef, (Value.bool false), u15, u19, u33, u41, u45, undef, undef, undef, (Value.bool true), (Value.bool false), u1, u15, u2, u19, (sli b21 0 0 0), u15, u27, u19, u33, u33, u41, u41, (eN ((pgE ((dataL la 24) ++ (dataL lb 24))).length)), (Value.bool false), u3, u45] ++ (us 41)) ?_
 refine wpL.done ?_
 have hm_ := places_in ll 5 (show 0 < 224 by decide)
 have h5_ := places_le ll 224 5
 refine then_n ?_
 refine wpIn_seq ?_
 refine plain ?_
 refine wI (d_assign rfl) ?_
 refine wF ([u1, u2, u3, (Value.bool bh), undef, undef, undef, undef, (Value.bool false), u15, u19, u33, u41, u45, (eN 32), undef, undef, (Value.bool true), (Value.bool false), u1, u15, u2, u19, (sli b21 0 0 0), u15, u27, u19, u33, u33, u41, u41, (eN ((pgE ((dataL la 24) ++ (dataL lb 24))).length)), (Value.bool false), u3, u45] ++ (us 41)) ?_
 refine wpL.done ?_
 refine then_n ?_
 refine wpIn_seq ?_
 refine wpIn_seq ?_
 refine plain ?_
 refine wI (d_move rfl) ?_
 refine wF ([u1, u2, u3, (Value.bool bh), undef, undef, undef, undef, (Value.bool false), u15, u19, u33, u41, u45, (eN 32), undef, undef, (Value.bool true), (Value.bool false), u1, u15, u2, u19, (sli b21 0 0 0), u15, u27, u19, u33, u33, u41, u41, (eN ((pgE ((dataL la 24) ++ (dataL lb 24))).length)), (Value.bool false), u3, u45, (Value.bool bh)] ++ (us 40)) ?_
 refine wpL.done ?_
 refine then_n ?_
 refine cond_b rfl (fun hv => ?_) (fun hv => ?_)
 ·
  refine plain ?_
  refine wI (d_assign rfl) ?_
  refine wF ([u1, u2, u3, (Value.bool bh), undef, undef, undef, undef, (Value.bool false), u15, u19, u33, u41, u45, (eN 256), undef, undef, (Value.bool true), (Value.bool false), u1, u15, u2, u19, (sli b21 0 0 0), u15, u27, u19, u33, u33, u41, u41, (eN ((pgE ((dataL la 24) ++ (dataL lb 24))).length)), (Value.bool false), u3, u45, (Value.bool bh)] ++ (us 40)) ?_
  refine wpL.done ?_
  refine then_n ?_
  refine wpIn_seq ?_
  refine wpIn_seq ?_
  refine plain ?_
  refine wI (d_assign rfl) ?_
  refine wF ([u1, u2, u3, (Value.bool bh), undef, undef, undef, undef, (Value.bool false), u15, u19, u33, u41, u45, (eN 256), (eN 0), undef, (Value.bool true), (Value.bool false), u1, u15, u2, u19, (sli b21 0 0 0), u15, u27, u19, u33, u33, u41, u41, (eN ((pgE ((dataL la 24) ++ (dataL lb 24))).length)), (Value.bool false), u3, u45, (Value.bool bh)] ++ (us 40)) ?_
  refine wpL.done ?_
  refine then_n ?_
  refine wpIn_block ?_
  refine loop2 (fun (i : (Nat)) => fun (z : Nat → Value) => (([u1, u2, u3, (Value.bool bh), undef, undef, undef, undef, (Value.bool false), u15, u19, u33, u41, u45, (eN 256), (eN i), undef, (Value.bool true), (Value.bool false), u1, u15, u2, u19, (sli b21 0 0 0), u15, u27, u19, u33, u33, u41, u41, (eN ((pgE ((dataL la 24) ++ (dataL lb 24))).length)), (Value.bool false), u3, u45, (Value.bool bh)] ++ (zs z 36 13 ++ (us 27))) : List Value)) (fun (i : (Nat)) => fun (w_ : World) => (i ≤ (placesL ll 224 5).length) ∧ Only (Orq bo47 (Orq bo35 No)) w43 w_ ∧ Ow 5 1 bo35 u33 ((dataL la 24) ++ (dataL lb 24)).length (((dataL la 24) ++ (dataL lb 24)).map eB) w_ ∧ Ow 3 1 bo47 u45 (moveTo (placesL ll 224 5) 256 i).length ((moveTo (placesL ll 224 5) 256 i).map eN) w_) (fun (i : (Nat)) => (placesL ll 224 5).length - i) 0 rfl ?_ ?_
  ·
   refine ⟨?_, ?_, ?_, ?_⟩
   ·
    exact Nat.zero_le _
   ·
    exact Only.refl _ _
   ·
    exact a36
   ·
    (try dsimp only)
    all_goals (rw [← moveTo_zero]; exact f46)
  rintro i z w50 ⟨hi, o49, a36, f46⟩
  (try dsimp only)
  replace h1 := h1.step o49 (orq_mono (orq_mono no_any))
  replace h2 := h2.step o49 (orq_mono (orq_mono no_any))
  replace h3 := h3.step o49 (orq_mono (orq_mono no_any))
  replace f16 := f16.step o49 (orq_mono (orq_mono no_any))
  replace f20 := f20.step o49 (orq_mono (orq_mono no_any))
  replace f42 := f42.step o49 (orq_mono (orq_mono no_any))
  replace oW := oW.tail o49 (tl_q q_oW_at (fun _ e => by cases e) (tl_q q_oW_d (fun _ e => by cases e) tl_no))
  have q_o49_d : Fr bo35 bo35 w43.heap.size := Fr.same
  have q_o49_at : Fr bo47 bo47 w43.heap.size := Fr.same
  refine wpIn_seq ?_
  refine wpIn_seq ?_
  have hl_ := moveTo_length (placesL ll 224 5) 256 i
  refine plain ?_
  refine wI (d_move rfl) ?_
  refine wI (d_move rfl) ?_
  refine wI (d_lenS rfl Try.underlying23 rfl (f46.seq (X := No) (fun _ _ h => h))) ?_
  refine wF ([u1, u2, u3, (Value.bool bh), undef, undef, undef, undef, (Value.bool false), u15, u19, u33, u41, u45, (eN 256), (eN i), undef, (Value.bool true), (Value.bool false), u1, u15, u2, u19, (sli b21 0 0 0), u15, u27, u19, u33, u33, u41, u41, (eN ((pgE ((dataL la 24) ++ (dataL lb 24))).length)), (Value.bool false), u3, u45, (Value.bool bh), (eN i), u45, (eN ((moveTo (placesL ll 224 5) 256 i).length))] ++ (zs z 39 10 ++ (us 27))) ?_
  refine wI (n_lss (a := i) (b := ((moveTo (placesL ll 224 5) 256 i).length)) rfl rfl rfl) ?_
  refine wF ([u1, u2, u3, (Value.bool bh), undef, undef, undef, undef, (Value.bool false), u15, u19, u33, u41, u45, (eN 256), (eN i), undef, (Value.bool true), (Value.bool false), u1, u15, u2, u19, (sli b21 0 0 0), u15, u27, u19, u33, u33, u41, u41, (eN ((pgE ((dataL la 24) ++ (dataL lb 24))).length)), (Value.bool false), u3, u45, (Value.bool bh), (eN i), u45, (eN ((moveTo (placesL ll 224 5) 256 i).length)), (Value.bool (decide (i < ((moveTo (placesL ll 224 5) 256 i).length))))] ++ (zs z 40 9 ++ (us 27))) ?_
  refine wpL.done ?_
  refine then_n ?_
  refine cond_if rfl (fun c2 => ?_) (fun c2 => ?_)
  ·
   have hl_ := moveTo_length (placesL ll 224 5) 256 i
   refine wpIn_skip ?_
   refine then_n ?_
   refine wpIn_seq ?_
   refine wpIn_block ?_
   refine plain ?_
   refine wI (d_move rfl) ?_
   refine wI (d_move rfl) ?_
   refine wI (d_ix (i := i) (xs := (moveTo (placesL ll 224 5) 256 i)) Try.underlying23 s_ti3 rfl (f46.seq (X := No) (fun _ _ h => h)) (show _ = Value.int _ ((i : Nat) : Int) from rfl) (by have := places_le ll 224 5; first | omega | (simp; done) | (simp; omega))) ?_
   refine wF ([u1, u2, u3, (Value.bool bh), undef, undef, undef, undef, (Value.bool false), u15, u19, u33, u41, u45, (eN 256), (eN i), undef, (Value.bool true), (Value.bool false), u1, u15, u2, u19, (sli b21 0 0 0), u15, u27, u19, u33, u33, u41, u41, (eN ((pgE ((dataL la 24) ++ (dataL lb 24))).length)), (Value.bool false), u3, u45, (Value.bool bh), (eN i), u45, (eN ((moveTo (placesL ll 224 5) 256 i).length)), (Value.bool (decide (i < ((moveTo (placesL ll 224 5) 256 i).length)))), (z 40), (z 41), u45, (eN i), (ixp u45 i), (z 45), (z 46), (z 47), (z 48)] ++ (us 27)) ?_
   refine wI (d_ldx (i := i) (xs := (moveTo (placesL ll 224 5) 256 i)) (enc := eN) (v := ((moveTo (placesL ll 224 5) 256 i).getD i 0)) ⟨_, Try.underlying3, rfl⟩ rfl (f46.seq (X := No) (fun _ _ h => h)) (g_at (by have := places_le ll 224 5; first | omega | (simp; done) | (simp; omega)))) ?_
   refine wI (d_move rfl) ?_
   refine wI (n_add (a := ((moveTo (placesL ll 224 5) 256 i).getD i 0)) (b := 256) rfl rfl (by rw [moveTo_at (show i < (placesL ll 224 5).length by omega)]; have := getD_lt hm_ (show i < (placesL ll 224 5).length by omega); omega)) ?_
   refine wF ([u1, u2, u3, (Value.bool bh), undef, undef, undef, undef, (Value.bool false), u15, u19, u33, u41, u45, (eN 256), (eN i), undef, (Value.bool true), (Value.bool false), u1, u15, u2, u19, (sli b21 0 0 0), u15, u27, u19, u33, u33, u41, u41, (eN ((pgE ((dataL la 24) ++ (dataL lb 24))).length)), (Value.bool false), u3, u45, (Value.bool bh), (eN i), u45, (eN ((moveTo (placesL ll 224 5) 256 i).length)), (Value.bool (decide (i < ((moveTo (placesL ll 224 5) 256 i).length)))), (z 40), (z 41), u45, (eN i), (ixp u45 i), (eN ((moveTo (placesL ll 224 5) 256 i).getD i 0)), (eN 256), (eN (((moveTo (placesL ll 224 5) 256 i).getD i 0) + 256)), (z 48)] ++ (us 27)) ?_
   refine wI (d_ix (i := i) (xs := (moveTo (placesL ll 224 5) 256 i)) Try.underlying23 s_ti3 rfl (f46.seq (X := No) (fun _ _ h => h)) (show _ = Value.int _ ((i : Nat) : Int) from rfl) (by have := places_le ll 224 5; first | omega | (simp; done) | (simp; omega))) ?_
   refine wO (d_stx (i := i) (xs := (moveTo (placesL ll 224 5) 256 i)) (enc := eN) (v := (((moveTo (placesL ll 224 5) 256 i).getD i 0) + 256)) s_ti3 rfl rfl rfl f46 (by have := places_le ll 224 5; first | omega | (simp; done) | (simp; omega)) rfl) ?_
   rintro _ w51 ⟨a52, o53⟩
   replace h1 := h1.gr o53 (fun k e => (.inl e)) (xx_re Fr.same (xx_orq xx_id))
   replace h2 := h2.gr o53 (fun k e => (.inl e)) (xx_re Fr.same (xx_orq xx_id))
   replace h3 := h3.gr o53 (fun k e => (.inl e)) (xx_re Fr.same (xx_orq xx_id))
   replace f16 := f16.gr o53 (fun k e => (.inl e)) (xx_re Fr.same (xx_orq xx_id))
   replace f20 := f20.gr o53 (fun k e => (.inl e)) (xx_re Fr.same (xx_orq xx_id))
   replace f42 := f42.gr o53 (fun k e => (.inl e)) (xx_re Fr.same (xx_orq xx_id))
   have lt2 := a36.lts
   replace a36 := a36.step o53 (fun x hx e => nqq_d_at x hx e)
   replace nqq_d_at := nqq_step nqq_d_at Fr.same lt2
   clear lt2
   have tq := oW.size
   replace oW := oW.tailr o53 q_oW_at (fun _ e => by cases e)
   replace q_oW_at := qtr Fr.same q_oW_at tq
   clear tq
   have tq := o49.size
   replace o49 := o49.tailr o53 q_o49_at (fun k e => (.inl e))
   replace q_o49_at := qtr Fr.same q_o49_at tq
   clear tq
   refine wF ([u1, u2, u3, (Value.bool bh), undef, undef, undef, undef, (Value.bool false), u15, u19, u33, u41, u45, (eN 256), (eN i), undef, (Value.bool true), (Value.bool false), u1, u15, u2, u19, (sli b21 0 0 0), u15, u27, u19, u33, u33, u41, u41, (eN ((pgE ((dataL la 24) ++ (dataL lb 24))).length)), (Value.bool false), u3, u45, (Value.bool bh), (eN i), u45, (eN ((moveTo (placesL ll 224 5) 256 i).length)), (Value.bool (decide (i < ((moveTo (placesL ll 224 5) 256 i).length)))), (z 40), (z 41), u45, (eN i), (ixp u45 i), (eN ((moveTo (placesL ll 224 5) 256 i).getD i 0)), (eN 256), (eN (((moveTo (placesL ll 224 5) 256 i).getD i 0) + 256)), (ixp u45 i)] ++ (us 27)) ?_
   refine wpL.done ?_
   refine inb_n (then_n ?_)
   refine plain ?_
   refine wI (d_move rfl) ?_
   refine wI (n_add (a := i) (b := 1) rfl rfl (by omega)) ?_
   refine wI (d_assign rfl) ?_
   refine wF ([u1, u2, u3, (Value.bool bh), undef, undef, undef, undef, (Value.bool false), u15, u19, u33, u41, u45, (eN 256), (eN (i + 1)), undef, (Value.bool true), (Value.bool false), u1, u15, u2, u19, (sli b21 0 0 0), u15, u27, u19, u33, u33, u41, u41, (eN ((pgE ((dataL la 24) ++ (dataL lb 24))).length)), (Value.bool false), u3, u45, (Value.bool bh), (eN i), u45, (eN ((moveTo (placesL ll 224 5) 256 i).length)), (Value.bool (decide (i < ((moveTo (placesL ll 224 5) 256 i).length)))), (eN i), (eN (i + 1)), u45, (eN i), (ixp u45 i), (eN ((moveTo (placesL ll 224 5) 256 i).getD i 0)), (eN 256), (eN (((moveTo (placesL ll 224 5) 256 i).getD i 0) + 256)), (ixp u45 i)] ++ (us 27)) ?_
   refine wpL.done ?_
   refine then_n ?_
   refine ⟨_, (i + 1), rfl, rfl, ⟨?_, ?_, ?_, ?_⟩, ?_⟩
   ·
    (try dsimp only)
    all_goals (omega)
   ·
    exact o49
   ·
    exact a36
   ·
    (try dsimp only)
    all_goals (rw [moveTo_step (show i < (placesL ll 224 5).length by omega)] at a52; exact a52)
   ·
    (try dsimp only)
    all_goals (omega)
  have hl_ := moveTo_length (placesL ll 224 5) 256 i
  refine wpIn_exit ?_
  refine then_x (then_x (inb_e ?_))
  refine then_n ?_
  refine wpIn_seq ?_
  rw [moveTo_done (show (placesL ll 224 5).length ≤ i by omega)] at f46
  refine plain ?_
  refine wI (d_move rfl) ?_
  refine wI (d_move rfl) ?_
  refine wO (d_call (xl := [.tmp 49, .tmp 50]) (al := [u41, u45]) Try.func17 (by kernel_rfl) rfl rfl rfl (ref6Flip_ok (pgE ((dataL la 24) ++ (dataL lb 24))) ((placesL ll 224 5).map (256 + ·)) u41 u45 _ (Ps.no f42) (Ps.no (f46.seq (X := No) (fun _ _ h => h))) (by have := dataL_length la 24; have := dataL_length lb 24; have := pgE_len ((dataL la 24) ++ (dataL lb 24)); first | omega | (simp; done) | (simp; omega)) (by have := places_le ll 224 5; first | omega | (simp; done) | (simp; omega)) (pg_flip_in hd_ (fun k hk => by obtain ⟨x, hx, rfl⟩ := List.mem_map.1 hk; have := hm_ x hx; omega)))) ?_
  rintro u56 w54 f57
  replace f57 := f57.ps
  obtain ⟨f57, o55⟩ := f57
  replace f57 := f57.less (Y := (Orq bo47 (Orq bo35 (Old W.heap.size)))) (orq_old f46.lts (orq_old a36.lts (old_old oW.size)))
  replace h1 := h1.step0 o55
  replace h2 := h2.step0 o55
  replace h3 := h3.step0 o55
  replace f16 := f16.step0 o55
  replace f20 := f20.step0 o55
  replace f42 := f42.step0 o55
  replace a36 := a36.step0 o55
  replace f46 := f46.step0 o55
  replace oW := oW.tail0 o55
  replace o49 := o49.tail0 o55
  refine wF ([u1, u2, u3, (Value.bool bh), undef, undef, undef, undef, (Value.bool false), u15, u19, u33, u41, u45, (eN 256), (eN i), undef, (Value.bool true), (Value.bool false), u1, u15, u2, u19, (sli b21 0 0 0), u15, u27, u19, u33, u33, u41, u41, (eN ((pgE ((dataL la 24) ++ (dataL lb 24))).length)), (Value.bool false), u3, u45, (Value.bool bh), (eN i), u45, (eN ((moveTo (placesL ll 224 5) 256 i).length)), (Value.bool (decide (i < ((moveTo (placesL ll 224 5) 256 i).length))))] ++ (zs z 40 9 ++ [u41, u45, u56] ++ (us 24))) ?_
  refine wO (d_call (xl := [.tmp 51]) (al := [u56]) Try.func21 (by kernel_rfl) rfl rfl rfl (pageDecode_ok (flipL (pgE ((dataL la 24) ++ (dataL lb 24))) ((placesL ll 224 5).map (256 + ·))) u56 _ (Ps.no f57) (by have := flipL_length (pgE ((dataL la 24) ++ (dataL lb 24))) ((placesL ll 224 5).map (256 + ·)); have := places_le ll 224 5; have := dataL_length la 24; have := dataL_length lb 24; have := pgE_len ((dataL la 24) ++ (dataL lb 24)); first | omega | (simp; done) | (simp; omega)))) ?_
  rintro _ w58 ⟨u60, rfl, f61, o59⟩
  replace f61 := f61.less (Y := (Orq bo47 (Orq bo35 (Old W.heap.size)))) (orq_old f46.lts (orq_old a36.lts (old_old oW.size)))
  replace h1 := h1.step0 o59
  replace h2 := h2.step0 o59
  replace h3 := h3.step0 o59
  replace f16 := f16.step0 o59
  replace f20 := f20.step0 o59
  replace f42 := f42.step0 o59
  replace f57 := f57.step0 o59
  replace a36 := a36.step0 o59
  replace f46 := f46.step0 o59
  replace oW := oW.tail0 o59
  replace o49 := o49.tail0 o59
  refine wO (d_alloc s_ti32 rfl) ?_
  rintro _ w63 ⟨b62, rfl, g64, a65, o66⟩
  have nq_d_b62 : ∀ x, bo35 = some x → ¬ x = b62 := fun x hx e => by have := a36.lts x hx; omega
  have nq_at_b62 : ∀ x, bo47 = some x → ¬ x = b62 := fun x hx e => by have := f46.lts x hx; omega
  have g_oW_b62 : W.heap.size ≤ b62 := Nat.le_trans oW.size g64
  have g_o49_b62 : w43.heap.size ≤ b62 := Nat.le_trans o49.size g64
  replace h1 := h1.new o66 g64
  replace h2 := h2.new o66 g64
  replace h3 := h3.new o66 g64
  replace f16 := f16.new o66 g64
  replace f20 := f20.new o66 g64
  replace f42 := f42.new o66 g64
  replace f57 := f57.new o66 g64
  replace f61 := f61.new o66 g64
  replace a36 := a36.step0 o66
  replace f46 := f46.step0 o66
  replace oW := oW.tail0 o66
  replace o49 := o49.tail0 o66
  refine wO (d_storeAg (cs' := [(eN ((pgD (flipL (pgE ((dataL la 24) ++ (dataL lb 24))) ((placesL ll 224 5).map (256 + ·)))).1)), u60]) s_ti32 rfl rfl rfl (oc_cons rfl (oc_cons (Seq.one f61) oc_nil)) a65 (by decide) rfl) ?_
  rintro _ w67 ⟨a68, o69⟩
  replace h1 := h1.stepb o69 in1
  replace h2 := h2.stepb o69 in1
  replace h3 := h3.stepb o69 in1
  replace f16 := f16.stepb o69 in1
  replace f20 := f20.stepb o69 in1
  replace f42 := f42.stepb o69 in1
  replace f57 := f57.stepb o69 in1
  replace f61 := f61.stepb o69 in1
  replace a36 := a36.step o69 (fun x hx e => nq_d_b62 x hx e)
  replace f46 := f46.step o69 (fun x hx e => nq_at_b62 x hx e)
  replace oW := oW.tailb o69 g_oW_b62
  replace o49 := o49.tailb o69 g_o49_b62
  refine wF ([u1, u2, u3, (Value.bool bh), undef, undef, undef, undef, (Value.bool false), u15, u19, u33, u41, u45, (eN 256), (eN i), (ptr b62 0), (Value.bool true), (Value.bool false), u1, u15, u2, u19, (sli b21 0 0 0), u15, u27, u19, u33, u33, u41, u41, (eN ((pgE ((dataL la 24) ++ (dataL lb 24))).length)), (Value.bool false), u3, u45, (Value.bool bh), (eN i), u45, (eN ((moveTo (placesL ll 224 5) 256 i).length)), (Value.bool (decide (i < ((moveTo (placesL ll 224 5) 256 i).length))))] ++ (zs z 40 9 ++ [u41, u45, u56, (Value.agg #[(eN ((pgD (flipL (pgE ((dataL la 24) ++ (dataL lb 24))) ((placesL ll 224 5).map (256 + ·)))).1)), u60])] ++ (us 23))) ?_
  refine wpL.done ?_
  refine then_n ?_
  refine wpIn_seq ?_
  refine wpIn_seq ?_
  refine plain ?_
  refine wI (d_move rfl) ?_
  refine wI (d_lenS rfl Try.underlying23 rfl (f46.seq (X := No) (fun _ _ h => h))) ?_
  refine wI (n_gtr (a := (((placesL ll 224 5).map (256 + ·)).length)) (b := 3) rfl rfl rfl) ?_
  refine wF ([u1, u2, u3, (Value.bool bh), undef, undef, undef, undef, (Value.bool false), u15, u19, u33, u41, u45, (eN 256), (eN i), (ptr b62 0), (Value.bool true), (Value.bool false), u1, u15, u2, u19, (sli b21 0 0 0), u15, u27, u19, u33, u33, u41, u41, (eN ((pgE ((dataL la 24) ++ (dataL lb 24))).length)), (Value.bool false), u3, u45, (Value.bool bh), (eN i), u45, (eN ((moveTo (placesL ll 224 5) 256 i).length)), (Value.bool (decide (i < ((moveTo (placesL ll 224 5) 256 i).length))))] ++ (zs z 40 9 ++ [u41, u45, u56, (Value.agg #[(eN ((pgD (flipL (pgE ((dataL la 24) ++ (dataL lb 24))) ((placesL ll 224 5).map (256 + ·)))).1)), u60]), u45, (eN (((placesL ll 224 5).map (256 + ·)).length)), (Value.bool (decide (3 < (((placesL ll 224 5).map (256 + ·)).length))))] ++ (us 20))) ?_
  refine wpL.done ?_
  refine then_n ?_
  refine cond_if rfl (fun d0 => ?_) (fun d0 => ?_)
  ·
   refine wpIn_seq ?_
   refine plain ?_
   refine wI (d_fieldAddr (j := 0) Try.underlying32 rfl s_ti3 (by decide) rfl rfl) ?_
   refine wI (d_load (v := (eN ((pgD (flipL (pgE ((dataL la 24) ++ (dataL lb 24))) ((placesL ll 224 5).map (256 + ·)))).1))) ⟨_, Try.underlying3, rfl⟩ rfl a68 rfl) ?_
   refine wI (n_eql (a := ((pgD (flipL (pgE ((dataL la 24) ++ (dataL lb 24))) ((placesL ll 224 5).map (256 + ·)))).1)) (b := 1) rfl rfl (decide_eq_true (by rw [pg_half32 hd_ ll, if_pos (by rw [List.length_map] at d0; exact d0)]))) ?_
   refine wF ([u1, u2, u3, (Value.bool bh), undef, undef, undef, undef, (Value.bool false), u15, u19, u33, u41, u45, (eN 256), (eN i), (ptr b62 0), (Value.bool true), (Value.bool false), u1, u15, u2, u19, (sli b21 0 0 0), u15, u27, u19, u33, u33, u41, u41, (eN ((pgE ((dataL la 24) ++ (dataL lb 24))).length)), (Value.bool false), u3, u45, (Value.bool bh), (eN i), u45, (eN ((moveTo (placesL ll 224 5) 256 i).length)), (Value.bool (decide (i < ((moveTo (placesL ll 224 5) 256 i).length))))] ++ (zs z 40 9 ++ [u41, u45, u56, (Value.agg #[(eN ((pgD (flipL (pgE ((dataL la 24) ++ (dataL lb 24))) ((placesL ll 224 5).map (256 + ·)))).1)), u60]), u45, (eN (((placesL ll 224 5).map (256 + ·)).length)), (Value.bool (decide (3 < (((placesL ll 224 5).map (256 + ·)).length)))), (ptr b62 0), (eN ((pgD (flipL (pgE ((dataL la 24) ++ (dataL lb 24))) ((placesL ll 224 5).map (256 + ·)))).1)), (Value.bool true)] ++ (us 17))) ?_
   refine wI (d_move rfl) ?_
   refine wpL.onis rfl rfl rfl (nb rfl) rfl (d_fieldAddr (j := 1) Try.underlying32 rfl s_ti22 (by decide) rfl rfl) ?_
   refine wpL.onis rfl rfl rfl (nb rfl) rfl (d_load (v := u60) ⟨_, Try.underlying22, rfl⟩ rfl a68 rfl) ?_
   refine wF ([u1, u2, u3, (Value.bool bh), undef, undef, undef, undef, (Value.bool false), u15, u19, u33, u41, u45, (eN 256), (eN i), (ptr b62 0), (Value.bool true), (Value.bool false), u1, u15, u2, u19, (sli b21 0 0 0), u15, u27, u19, u33, u33, u41, u41, (eN ((pgE ((dataL la 24) ++ (dataL lb 24))).length)), (Value.bool false), u3, u45, (Value.bool bh), (eN i), u45, (eN ((moveTo (placesL ll 224 5) 256 i).length)), (Value.bool (decide (i < ((moveTo (placesL ll 224 5) 256 i).length))))] ++ (zs z 40 9 ++ [u41, u45, u56, (Value.agg #[(eN ((pgD (flipL (pgE ((dataL la 24) ++ (dataL lb 24))) ((placesL ll 224 5).map (256 + ·)))).1)), u60]), u45, (eN (((placesL ll 224 5).map (256 + ·)).length)), (Value.bool (decide (3 < (((placesL ll 224 5).map (256 + ·)).length)))), (ptr b62 0), (eN ((pgD (flipL (pgE ((dataL la 24) ++ (dataL lb 24))) ((placesL ll 224 5).map (256 + ·)))).1)), (Value.bool true), (Value.bool true), (ptr b62 1), u60] ++ (us 14))) ?_
   refine wpL.onis rfl rfl rfl (nb rfl) rfl (d_lenS rfl Try.underlying22 rfl f61) ?_
   refine wpL.onis rfl rfl rfl (nb rfl) rfl (n_eql (a := (((pgD (flipL (pgE ((dataL la 24) ++ (dataL lb 24))) ((placesL ll 224 5).map (256 + ·)))).2).length)) (b := 0) rfl rfl (decide_eq_true (by rw [pg_half32 hd_ ll, if_pos (by rw [List.length_map] at d0; exact d0)]; rfl))) ?_
   refine wI (d_pick (b := true) (v := (Value.bool true)) rfl rfl) ?_
   refine wF ([u1, u2, u3, (Value.bool bh), undef, undef, undef, undef, (Value.bool false), u15, u19, u33, u41, u45, (eN 256), (eN i), (ptr b62 0), (Value.bool true), (Value.bool false), u1, u15, u2, u19, (sli b21 0 0 0), u15, u27, u19, u33, u33, u41, u41, (eN ((pgE ((dataL la 24) ++ (dataL lb 24))).length)), (Value.bool false), u3, u45, (Value.bool bh), (eN i), u45, (eN ((moveTo (placesL ll 224 5) 256 i).length)), (Value.bool (decide (i < ((moveTo (placesL ll 224 5) 256 i).length))))] ++ (zs z 40 9 ++ [u41, u45, u56, (Value.agg #[(eN ((pgD (flipL (pgE ((dataL la 24) ++ (dataL lb 24))) ((placesL ll 224 5).map (256 + ·)))).1)), u60]), u45, (eN (((placesL ll 224 5).map (256 + ·)).length)), (Value.bool (decide (3 < (((placesL ll 224 5).map (256 + ·)).length)))), (ptr b62 0), (eN ((pgD (flipL (pgE ((dataL la 24) ++ (dataL lb 24))) ((placesL ll 224 5).map (256 + ·)))).1)), (Value.bool true), (Value.bool true), (ptr b62 1), u60, (eN (((pgD (flipL (pgE ((dataL la 24) ++ (dataL lb 24))) ((placesL ll 224 5).map (256 + ·)))).2).length)), (Value.bool true), (Value.bool true)] ++ (us 11))) ?_
   refine wI (d_assign rfl) ?_
   refine wF ([u1, u2, u3, (Value.bool bh), undef, undef, undef, undef, (Value.bool true), u15, u19, u33, u41, u45, (eN 256), (eN i), (ptr b62 0), (Value.bool true), (Value.bool false), u1, u15, u2, u19, (sli b21 0 0 0), u15, u27, u19, u33, u33, u41, u41, (eN ((pgE ((dataL la 24) ++ (dataL lb 24))).length)), (Value.bool false), u3, u45, (Value.bool bh), (eN i), u45, (eN ((moveTo (placesL ll 224 5) 256 i).length)), (Value.bool (decide (i < ((moveTo (placesL ll 224 5) 256 i).length))))] ++ (zs z 40 9 ++ [u41, u45, u56, (Value.agg #[(eN ((pgD (flipL (pgE ((dataL la 24) ++ (dataL lb 24))) ((placesL ll 224 5).map (256 + ·)))).1)), u60]), u45, (eN (((placesL ll 224 5).map (256 + ·)).length)), (Value.bool (decide (3 < (((placesL ll 224 5).map (256 + ·)).length)))), (ptr b62 0), (eN ((pgD (flipL (pgE ((dataL la 24) ++ (dataL lb 24))) ((placesL ll 224 5).map (256 + ·)))).1)), (Value.bool true), (Value.bool true), (ptr b62 1), u60, (eN (((pgD (flipL (pgE ((dataL la 24) ++ (dataL lb 24))) ((placesL ll 224 5).map (256 + ·)))).2).length)), (Value.bool true), (Value.bool true)] ++ (us 11))) ?_
   refine wpL.done ?_
   refine then_n ?_
   refine wpIn_ret ?_
   refine then_r ?_
   refine leave0 (v := (Value.bool true)) (res1 Try.results6 rfl) ?_
   exact ⟨rfl, oW⟩
  refine wpIn_skip ?_
  refine then_n ?_
  refine wpIn_seq ?_
  refine plain ?_
  refine wI (d_fieldAddr (j := 0) Try.underlying32 rfl s_ti3 (by decide) rfl rfl) ?_
  refine wI (d_load (v := (eN ((pgD (flipL (pgE ((dataL la 24) ++ (dataL lb 24))) ((placesL ll 224 5).map (256 + ·)))).1))) ⟨_, Try.underlying3, rfl⟩ rfl a68 rfl) ?_
  refine wI (n_eql (a := ((pgD (flipL (pgE ((dataL la 24) ++ (dataL lb 24))) ((placesL ll 224 5).map (256 + ·)))).1)) (b := 2) rfl rfl (decide_eq_true (by rw [pg_half32 hd_ ll, if_neg (by rw [List.length_map] at d0; exact d0)]))) ?_
  refine wF ([u1, u2, u3, (Value.bool bh), undef, undef, undef, undef, (Value.bool false), u15, u19, u33, u41, u45, (eN 256), (eN i), (ptr b62 0), (Value.bool true), (Value.bool false), u1, u15, u2, u19, (sli b21 0 0 0), u15, u27, u19, u33, u33, u41, u41, (eN ((pgE ((dataL la 24) ++ (dataL lb 24))).length)), (Value.bool false), u3, u45, (Value.bool bh), (eN i), u45, (eN ((moveTo (placesL ll 224 5) 256 i).length)), (Value.bool (decide (i < ((moveTo (placesL ll 224 5) 256 i).length))))] ++ (zs z 40 9 ++ [u41, u45, u56, (Value.agg #[(eN ((pgD (flipL (pgE ((dataL la 24) ++ (dataL lb 24))) ((placesL ll 224 5).map (256 + ·)))).1)), u60]), u45, (eN (((placesL ll 224 5).map (256 + ·)).length)), (Value.bool (decide (3 < (((placesL ll 224 5).map (256 + ·)).length))))] ++ (us 9 ++ [(ptr b62 0), (eN ((pgD (flipL (pgE ((dataL la 24) ++ (dataL lb 24))) ((placesL ll 224 5).map (256 + ·)))).1)), (Value.bool true)] ++ (us 8)))) ?_
  refine wI (d_move rfl) ?_
  refine wpL.onis rfl rfl rfl (nb rfl) rfl (d_fieldAddr (j := 1) Try.underlying32 rfl s_ti22 (by decide) rfl rfl) ?_
  refine wpL.onis rfl rfl rfl (nb rfl) rfl (d_load (v := u60) ⟨_, Try.underlying22, rfl⟩ rfl a68 rfl) ?_
  refine wF ([u1, u2, u3, (Value.bool bh), undef, undef, undef, undef, (Value.bool false), u15, u19, u33, u41, u45, (eN 256), (eN i), (ptr b62 0), (Value.bool true), (Value.bool false), u1, u15, u2, u19, (sli b21 0 0 0), u15, u27, u19, u33, u33, u41, u41, (eN ((pgE ((dataL la 24) ++ (dataL lb 24))).length)), (Value.bool false), u3, u45, (Value.bool bh), (eN i), u45, (eN ((moveTo (placesL ll 224 5) 256 i).length)), (Value.bool (decide (i < ((moveTo (placesL ll 224 5) 256 i).length))))] ++ (zs z 40 9 ++ [u41, u45, u56, (Value.agg #[(eN ((pgD (flipL (pgE ((dataL la 24) ++ (dataL lb 24))) ((placesL ll 224 5).map (256 + ·)))).1)), u60]), u45, (eN (((placesL ll 224 5).map (256 + ·)).length)), (Value.bool (decide (3 < (((placesL ll 224 5).map (256 + ·)).length))))] ++ (us 9 ++ [(ptr b62 0), (eN ((pgD (flipL (pgE ((dataL la 24) ++ (dataL lb 24))) ((placesL ll 224 5).map (256 + ·)))).1)), (Value.bool true), (Value.bool true), (ptr b62 1), u60] ++ (us 5)))) ?_
  refine wpL.onis rfl rfl rfl (nb rfl) rfl (d_str Try.underlying22 Try.underlying5 Try.underlying9 rfl f61) ?_
  refine wpL.onis rfl rfl rfl (nb rfl) rfl (d_move rfl) ?_
  refine wpL.onis rfl rfl rfl (nb rfl) rfl (d_str Try.underlying22 Try.underlying5 Try.underlying9 rfl (a36.seq (X := No) (fun _ _ h => h))) ?_
  refine wF ([u1, u2, u3, (Value.bool bh), undef, undef, undef, undef, (Value.bool false), u15, u19, u33, u41, u45, (eN 256), (eN i), (ptr b62 0), (Value.bool true), (Value.bool false), u1, u15, u2, u19, (sli b21 0 0 0), u15, u27, u19, u33, u33, u41, u41, (eN ((pgE ((dataL la 24) ++ (dataL lb 24))).length)), (Value.bool false), u3, u45, (Value.bool bh), (eN i), u45, (eN ((moveTo (placesL ll 224 5) 256 i).length)), (Value.bool (decide (i < ((moveTo (placesL ll 224 5) 256 i).length))))] ++ (zs z 40 9 ++ [u41, u45, u56, (Value.agg #[(eN ((pgD (flipL (pgE ((dataL la 24) ++ (dataL lb 24))) ((placesL ll 224 5).map (256 + ·)))).1)), u60]), u45, (eN (((placesL ll 224 5).map (256 + ·)).length)), (Value.bool (decide (3 < (((placesL ll 224 5).map (256 + ·)).length))))] ++ (us 9 ++ [(ptr b62 0), (eN ((pgD (flipL (pgE ((dataL la 24) ++ (dataL lb 24))) ((placesL ll 224 5).map (256 + ·)))).1)), (Value.bool true), (Value.bool true), (ptr b62 1), u60, (Value.string (strOf ((pgD (flipL (pgE ((dataL la 24) ++ (dataL lb 24))) ((placesL ll 224 5).map (256 + ·)))).2))), u33, (Value.string (strOf ((dataL la 24) ++ (dataL lb 24)))), undef, undef]))) ?_
  refine wpL.onis rfl rfl rfl (nb rfl) rfl (d_seql (a := ((pgD (flipL (pgE ((dataL la 24) ++ (dataL lb 24))) ((placesL ll 224 5).map (256 + ·)))).2)) (c := ((dataL la 24) ++ (dataL lb 24))) rfl rfl (decide_eq_true (by rw [pg_half32 hd_ ll, if_neg (by rw [List.length_map] at d0; exact d0)]))) ?_
  refine wI (d_pick (b := true) (v := (Value.bool true)) rfl rfl) ?_
  refine wI (d_assign rfl) ?_
  refine wF ([u1, u2, u3, (Value.bool bh), undef, undef, undef, undef, (Value.bool true), u15, u19, u33, u41, u45, (eN 256), (eN i), (ptr b62 0), (Value.bool true), (Value.bool false), u1, u15, u2, u19, (sli b21 0 0 0), u15, u27, u19, u33, u33, u41, u41, (eN ((pgE ((dataL la 24) ++ (dataL lb 24))).length)), (Value.bool false), u3, u45, (Value.bool bh), (eN i), u45, (eN ((moveTo (placesL ll 224 5) 256 i).length)), (Value.bool (decide (i < ((moveTo (placesL ll 224 5) 256 i).length))))] ++ (zs z 40 9 ++ [u41, u45, u56, (Value.agg #[(eN ((pgD (flipL (pgE ((dataL la 24) ++ (dataL lb 24))) ((placesL ll 224 5).map (256 + ·)))).1)), u60]), u45, (eN (((placesL ll 224 5).map (256 + ·)).length)), (Value.bool (decide (3 < (((placesL ll 224 5).map (256 + ·)).length))))] ++ (us 9 ++ [(ptr b62 0), (eN ((pgD (flipL (pgE ((dataL la 24) ++ (dataL lb 24))) ((placesL ll 224 5).map (256 + ·)))).1)), (Value.bool true), (Value.bool true), (ptr b62 1), u60, (Value.string (strOf ((pgD (flipL (pgE ((dataL la 24) ++ (dataL lb 24))) ((placesL ll 224 5).map (256 + ·)))).2))), u33, (Value.string (strOf ((dataL la 24) ++ (dataL lb 24)))), (Value.bool true), (Value.bool true)]))) ?_
  refine wpL.done ?_
  refine then_n ?_
  refine wpIn_ret ?_
  refine leave0 (v := (Value.bool true)) (res1 Try.results6 rfl) ?_
  exact ⟨rfl, oW⟩
 refine wpIn_skip ?_
 refine then_n ?_
 refine wpIn_seq ?_
 refine wpIn_seq ?_
 refine plain ?_
 refine wI (d_assign rfl) ?_
 refine wF ([u1, u2, u3, (Value.bool bh), undef, undef, undef, undef, (Value.bool false), u15, u19, u33, u41, u45, (eN 32), (eN 0), undef, (Value.bool true), (Value.bool false), u1, u15, u2, u19, (sli b21 0 0 0), u15, u27, u19, u33, u33, u41, u41, (eN ((pgE ((dataL la 24) ++ (dataL lb 24))).length)), (Value.bool false), u3, u45, (Value.bool bh)] ++ (us 40)) ?_
 refine wpL.done ?_
 refine then_n ?_
 refine wpIn_block ?_
 refine loop2 (fun (i : (Nat)) => fun (z : Nat → Value) => (([u1, u2, u3, (Value.bool bh), undef, undef, undef, undef, (Value.bool false), u15, u19, u33, u41, u45, (eN 32), (eN i), undef, (Value.bool true), (Value.bool false), u1, u15, u2, u19, (sli b21 0 0 0), u15, u27, u19, u33, u33, u41, u41, (eN ((pgE ((dataL la 24) ++ (dataL lb 24))).length)), (Value.bool false), u3, u45, (Value.bool bh)] ++ (zs z 36 13 ++ (us 27))) : List Value)) (fun (i : (Nat)) => fun (w_ : World) => (i ≤ (placesL ll 224 5).length) ∧ Only (Orq bo47 (Orq bo35 No)) w43 w_ ∧ Ow 5 1 bo35 u33 ((dataL la 24) ++ (dataL lb 24)).length (((dataL la 24) ++ (dataL lb 24)).map eB) w_ ∧ Ow 3 1 bo47 u45 (moveTo (placesL ll 224 5) 32 i).length ((moveTo (placesL ll 224 5) 32 i).map eN) w_) (fun (i : (Nat)) => (placesL ll 224 5).length - i) 0 rfl ?_ ?_
 ·
  refine ⟨?_, ?_, ?_, ?_⟩
  ·
   exact Nat.zero_le _
  ·
   exact Only.refl _ _
  ·
   exact a36
  ·
   (try dsimp only)
   all_goals (rw [← moveTo_zero]; exact f46)
 rintro i z w71 ⟨hi, o70, a36, f46⟩
 (try dsimp only)
 replace h1 := h1.step o70 (orq_mono (orq_mono no_any))
 replace h2 := h2.step o70 (orq_mono (orq_mono no_any))
 replace h3 := h3.step o70 (orq_mono (orq_mono no_any))
 replace f16 := f16.step o70 (orq_mono (orq_mono no_any))
 replace f20 := f20.step o70 (orq_mono (orq_mono no_any))
 replace f42 := f42.step o70 (orq_mono (orq_mono no_any))
 replace oW := oW.tail o70 (tl_q q_oW_at (fun _ e => by cases e) (tl_q q_oW_d (fun _ e => by cases e) tl_no))
 have q_o70_d : Fr bo35 bo35 w43.heap.size := Fr.same
 have q_o70_at : Fr bo47 bo47 w43.heap.size := Fr.same
 refine wpIn_seq ?_
 refine wpIn_seq ?_
 have hl_ := moveTo_length (placesL ll 224 5) 32 i
 refine plain ?_
 refine wI (d_move rfl) ?_
 refine wI (d_move rfl) ?_
 refine wI (d_lenS rfl Try.underlying23 rfl (f46.seq (X := No) (fun _ _ h => h))) ?_
 refine wF ([u1, u2, u3, (Value.bool bh), undef, undef, undef, undef, (Value.bool false), u15, u19, u33, u41, u45, (eN 32), (eN i), undef, (Value.bool true), (Value.bool false), u1, u15, u2, u19, (sli b21 0 0 0), u15, u27, u19, u33, u33, u41, u41, (eN ((pgE ((dataL la 24) ++ (dataL lb 24))).length)), (Value.bool false), u3, u45, (Value.bool bh), (eN i), u45, (eN ((moveTo (placesL ll 224 5) 32 i).length))] ++ (zs z 39 10 ++ (us 27))) ?_
 refine wI (n_lss (a := i) (b := ((moveTo (placesL ll 224 5) 32 i).length)) rfl rfl rfl) ?_
 refine wF ([u1, u2, u3, (Value.bool bh), undef, undef, undef, undef, (Value.bool false), u15, u19, u33, u41, u45, (eN 32), (eN i), undef, (Value.bool true), (Value.bool false), u1, u15, u2, u19, (sli b21 0 0 0), u15, u27, u19, u33, u33, u41, u41, (eN ((pgE ((dataL la 24) ++ (dataL lb 24))).length)), (Value.bool false), u3, u45, (Value.bool bh), (eN i), u45, (eN ((moveTo (placesL ll 224 5) 32 i).length)), (Value.bool (decide (i < ((moveTo (placesL ll 224 5) 32 i).length))))] ++ (zs z 40 9 ++ (us 27))) ?_
 refine wpL.done ?_
 refine then_n ?_
 refine cond_if rfl (fun c2 => ?_) (fun c2 => ?_)
 ·
  have hl_ := moveTo_length (placesL ll 224 5) 32 i
  refine wpIn_skip ?_
  refine then_n ?_
  refine wpIn_seq ?_
  refine wpIn_block ?_
  refine plain ?_
  refine wI (d_move rfl) ?_
  refine wI (d_move rfl) ?_
  refine wI (d_ix (i := i) (xs := (moveTo (placesL ll 224 5) 32 i)) Try.underlying23 s_ti3 rfl (f46.seq (X := No) (fun _ _ h => h)) (show _ = Value.int _ ((i : Nat) : Int) from rfl) (by have := places_le ll 224 5; first | omega | (simp; done) | (simp; omega))) ?_
  refine wF ([u1, u2, u3, (Value.bool bh), undef, undef, undef, undef, (Value.bool false), u15, u19, u33, u41, u45, (eN 32), (eN i), undef, (Value.bool true), (Value.bool false), u1, u15, u2, u19, (sli b21 0 0 0), u15, u27, u19, u33, u33, u41, u41, (eN ((pgE ((dataL la 24) ++ (dataL lb 24))).length)), (Value.bool false), u3, u45, (Value.bool bh), (eN i), u45, (eN ((moveTo (placesL ll 224 5) 32 i).length)), (Value.bool (decide (i < ((moveTo (placesL ll 224 5) 32 i).length)))), (z 40), (z 41), u45, (eN i), (ixp u45 i), (z 45), (z 46), (z 47), (z 48)] ++ (us 27)) ?_
  refine wI (d_ldx (i := i) (xs := (moveTo (placesL ll 224 5) 32 i)) (enc := eN) (v := ((moveTo (placesL ll 224 5) 32 i).getD i 0)) ⟨_, Try.underlying3, rfl⟩ rfl (f46.seq (X := No) (fun _ _ h => h)) (g_at (by have := places_le ll 224 5; first | omega | (simp; done) | (simp; omega)))) ?_
  refine wI (d_move rfl) ?_
  refine wI (n_add (a := ((moveTo (placesL ll 224 5) 32 i).getD i 0)) (b := 32) rfl rfl (by rw [moveTo_at (show i < (placesL ll 224 5).length by omega)]; have := getD_lt hm_ (show i < (placesL ll 224 5).length by omega); omega)) ?_
  refine wF ([u1, u2, u3, (Value.bool bh), undef, undef, undef, undef, (Value.bool false), u15, u19, u33, u41, u45, (eN 32), (eN i), undef, (Value.bool true), (Value.bool false), u1, u15, u2, u19, (sli b21 0 0 0), u15, u27, u19, u33, u33, u41, u41, (eN ((pgE ((dataL la 24) ++ (dataL lb 24))).length)), (Value.bool false), u3, u45, (Value.bool bh), (eN i), u45, (eN ((moveTo (placesL ll 224 5) 32 i).length)), (Value.bool (decide (i < ((moveTo (placesL ll 224 5) 32 i).length)))), (z 40), (z 41), u45, (eN i), (ixp u45 i), (eN ((moveTo (placesL ll 224 5) 32 i).getD i 0)), (eN 32), (eN (((moveTo (placesL ll 224 5) 32 i).getD i 0) + 32)), (z 48)] ++ (us 27)) ?_
  refine wI (d_ix (i := i) (xs := (moveTo (placesL ll 224 5) 32 i)) Try.underlying23 s_ti3 rfl (f46.seq (X := No) (fun _ _ h => h)) (show _ = Value.int _ ((i : Nat) : Int) from rfl) (by have := places_le ll 224 5; first | omega | (simp; done) | (simp; omega))) ?_
  refine wO (d_stx (i := i) (xs := (moveTo (placesL ll 224 5) 32 i)) (enc := eN) (v := (((moveTo (placesL ll 224 5) 32 i).getD i 0) + 32)) s_ti3 rfl rfl rfl f46 (by have := places_le ll 224 5; first | omega | (simp; done) | (simp; omega)) rfl) ?_
  rintro _ w72 ⟨a73, o74⟩
  replace h1 := h1.gr o74 (fun k e => (.inl e)) (xx_re Fr.same (xx_orq xx_id))
  replace h2 := h2.gr o74 (fun k e => (.inl e)) (xx_re Fr.same (xx_orq xx_id))
  replace h3 := h3.gr o74 (fun k e => (.inl e)) (xx_re Fr.same (xx_orq xx_id))
  replace f16 := f16.gr o74 (fun k e => (.inl e)) (xx_re Fr.same (xx_orq xx_id))
  replace f20 := f20.gr o74 (fun k e => (.inl e)) (xx_re Fr.same (xx_orq xx_id))
  replace f42 := f42.gr o74 (fun k e => (.inl e)) (xx_re Fr.same (xx_orq xx_id))
  have lt2 := a36.lts
  replace a36 := a36.step o74 (fun x hx e => nqq_d_at x hx e)
  replace nqq_d_at := nqq_step nqq_d_at Fr.same lt2
  clear lt2
  have tq := oW.size
  replace oW := oW.tailr o74 q_oW_at (fun _ e => by cases e)
  replace q_oW_at := qtr Fr.same q_oW_at tq
  clear tq
  have tq := o70.size
  replace o70 := o70.tailr o74 q_o70_at (fun k e => (.inl e))
  replace q_o70_at := qtr Fr.same q_o70_at tq
  clear tq
  refine wF ([u1, u2, u3, (Value.bool bh), undef, undef, undef, undef, (Value.bool false), u15, u19, u33, u41, u45, (eN 32), (eN i), undef, (Value.bool true), (Value.bool false), u1, u15, u2, u19, (sli b21 0 0 0), u15, u27, u19, u33, u33, u41, u41, (eN ((pgE ((dataL la 24) ++ (dataL lb 24))).length)), (Value.bool false), u3, u45, (Value.bool bh), (eN i), u45, (eN ((moveTo (placesL ll 224 5) 32 i).length)), (Value.bool (decide (i < ((moveTo (placesL ll 224 5) 32 i).length)))), (z 40), (z 41), u45, (eN i), (ixp u45 i), (eN ((moveTo (placesL ll 224 5) 32 i).getD i 0)), (eN 32), (eN (((moveTo (placesL ll 224 5) 32 i).getD i 0) + 32)), (ixp u45 i)] ++ (us 27)) ?_
  refine wpL.done ?_
  refine inb_n (then_n ?_)
  refine plain ?_
  refine wI (d_move rfl) ?_
  refine wI (n_add (a := i) (b := 1) rfl rfl (by omega)) ?_
  refine wI (d_assign rfl) ?_
  refine wF ([u1, u2, u3, (Value.bool bh), undef, undef, undef, undef, (Value.bool false), u15, u19, u33, u41, u45, (eN 32), (eN (i + 1)), undef, (Value.bool true), (Value.bool false), u1, u15, u2, u19, (sli b21 0 0 0), u15, u27, u19, u33, u33, u41, u41, (eN ((pgE ((dataL la 24) ++ (dataL lb 24))).length)), (Value.bool false), u3, u45, (Value.bool bh), (eN i), u45, (eN ((moveTo (placesL ll 224 5) 32 i).length)), (Value.bool (decide (i < ((moveTo (placesL ll 224 5) 32 i).length)))), (eN i), (eN (i + 1)), u45, (eN i), (ixp u45 i), (eN ((moveTo (placesL ll 224 5) 32 i).getD i 0)), (eN 32), (eN (((moveTo (placesL ll 224 5) 32 i).getD i 0) + 32)), (ixp u45 i)] ++ (us 27)) ?_
  refine wpL.done ?_
  refine then_n ?_
  refine ⟨_, (i + 1), rfl, rfl, ⟨?_, ?_, ?_, ?_⟩, ?_⟩
  ·
   (try dsimp only)
   all_goals (omega)
  ·
   exact o70
  ·
   exact a36
  ·
   (try dsimp only)
   all_goals (rw [moveTo_step (show i < (placesL ll 224 5).length by omega)] at a73; exact a73)
  ·
   (try dsimp only)
   all_goals (omega)
 have hl_ := moveTo_length (placesL ll 224 5) 32 i
 refine wpIn_exit ?_
 refine then_x (then_x (inb_e ?_))
 refine then_n ?_
 refine wpIn_seq ?_
 rw [moveTo_done (show (placesL ll 224 5).length ≤ i by omega)] at f46
 refine plain ?_
 refine wI (d_move rfl) ?_
 refine wI (d_move rfl) ?_
 refine wO (d_call (xl := [.tmp 49, .tmp 50]) (al := [u41, u45]) Try.func17 (by kernel_rfl) rfl rfl rfl (ref6Flip_ok (pgE ((dataL la 24) ++ (dataL lb 24))) ((placesL ll 224 5).map (32 + ·)) u41 u45 _ (Ps.no f42) (Ps.no (f46.seq (X := No) (fun _ _ h => h))) (by have := dataL_length la 24; have := dataL_length lb 24; have := pgE_len ((dataL la 24) ++ (dataL lb 24)); first | omega | (simp; done) | (simp; omega)) (by have := places_le ll 224 5; first | omega | (simp; done) | (simp; omega)) (pg_flip_in hd_ (fun k hk => by obtain ⟨x, hx, rfl⟩ := List.mem_map.1 hk; have := hm_ x hx; omega)))) ?_
 rintro u77 w75 f78
 replace f78 := f78.ps
 obtain ⟨f78, o76⟩ := f78
 replace f78 := f78.less (Y := (Orq bo47 (Orq bo35 (Old W.heap.size)))) (orq_old f46.lts (orq_old a36.lts (old_old oW.size)))
 replace h1 := h1.step0 o76
 replace h2 := h2.step0 o76
 replace h3 := h3.step0 o76
 replace f16 := f16.step0 o76
 replace f20 := f20.step0 o76
 replace f42 := f42.step0 o76
 replace a36 := a36.step0 o76
 replace f46 := f46.step0 o76
 replace oW := oW.tail0 o76
 replace o70 := o70.tail0 o76
 refine wF ([u1, u2, u3, (Value.bool bh), undef, undef, undef, undef, (Value.bool false), u15, u19, u33, u41, u45, (eN 32), (eN i), undef, (Value.bool true), (Value.bool false), u1, u15, u2, u19, (sli b21 0 0 0), u15, u27, u19, u33, u33, u41, u41, (eN ((pgE ((dataL la 24) ++ (dataL lb 24))).length)), (Value.bool false), u3, u45, (Value.bool bh), (eN i), u45, (eN ((moveTo (placesL ll 224 5) 32 i).length)), (Value.bool (decide (i < ((moveTo (placesL ll 224 5) 32 i).length))))] ++ (zs z 40 9 ++ [u41, u45, u77] ++ (us 24))) ?_
 refine wO (d_call (xl := [.tmp 51]) (al := [u77]) Try.func21 (by kernel_rfl) rfl rfl rfl (pageDecode_ok (flipL (pgE ((dataL la 24) ++ (dataL lb 24))) ((placesL ll 224 5).map (32 + ·))) u77 _ (Ps.no f78) (by have := flipL_length (pgE ((dataL la 24) ++ (dataL lb 24))) ((placesL ll 224 5).map (32 + ·)); have := places_le ll 224 5; have := dataL_length la 24; have := dataL_length lb 24; have := pgE_len ((dataL la 24) ++ (dataL lb 24)); first | omega | (simp; done) | (simp; omega)))) ?_
 rintro _ w79 ⟨u81, rfl, f82, o80⟩
 replace f82 := f82.less (Y := (Orq bo47 (Orq bo35 (Old W.heap.size)))) (orq_old f46.lts (orq_old a36.lts (old_old oW.size)))
 replace h1 := h1.step0 o80
 replace h2 := h2.step0 o80
 replace h3 := h3.step0 o80
 replace f16 := f16.step0 o80
 replace f20 := f20.step0 o80
 replace f42 := f42.step0 o80
 replace f78 := f78.step0 o80
 replace a36 := a36.step0 o80
 replace f46 := f46.step0 o80
 replace oW := oW.tail0 o80
 replace o70 := o70.tail0 o80
 refine wO (d_alloc s_ti32 rfl) ?_
 rintro _ w84 ⟨b83, rfl, g85, a86, o87⟩
 have nq_d_b83 : ∀ x, bo35 = some x → ¬ x = b83 := fun x hx e => by have := a36.lts x hx; omega
 have nq_at_b83 : ∀ x, bo47 = some x → ¬ x = b83 := fun x hx e => by have := f46.lts x hx; omega
 have g_oW_b83 : W.heap.size ≤ b83 := Nat.le_trans oW.size g85
 have g_o70_b83 : w43.heap.size ≤ b83 := Nat.le_trans o70.size g85
 replace h1 := h1.new o87 g85
 replace h2 := h2.new o87 g85
 replace h3 := h3.new o87 g85
 replace f16 := f16.new o87 g85
 replace f20 := f20.new o87 g85
 replace f42 := f42.new o87 g85
 replace f78 := f78.new o87 g85
 replace f82 := f82.new o87 g85
 replace a36 := a36.step0 o87
 replace f46 := f46.step0 o87
 replace oW := oW.tail0 o87
 replace o70 := o70.tail0 o87
 refine wO (d_storeAg (cs' := [(eN ((pgD (flipL (pgE ((dataL la 24) ++ (dataL lb 24))) ((placesL ll 224 5).map (32 + ·)))).1)), u81]) s_ti32 rfl rfl rfl (oc_cons rfl (oc_cons (Seq.one f82) oc_nil)) a86 (by decide) rfl) ?_
 rintro _ w88 ⟨a89, o90⟩
 replace h1 := h1.stepb o90 in1
 replace h2 := h2.stepb o90 in1
 replace h3 := h3.stepb o90 in1
 replace f16 := f16.stepb o90 in1
 replace f20 := f20.stepb o90 in1
 replace f42 := f42.stepb o90 in1
 replace f78 := f78.stepb o90 in1
 replace f82 := f82.stepb o90 in1
 replace a36 := a36.step o90 (fun x hx e => nq_d_b83 x hx e)
 replace f46 := f46.step o90 (fun x hx e => nq_at_b83 x hx e)
 replace oW := oW.tailb o90 g_oW_b83
 replace o70 := o70.tailb o90 g_o70_b83
 refine wF ([u1, u2, u3, (Value.bool bh), undef, undef, undef, undef, (Value.bool false), u15, u19, u33, u41, u45, (eN 32), (eN i), (ptr b83 0), (Value.bool true), (Value.bool false), u1, u15, u2, u19, (sli b21 0 0 0), u15, u27, u19, u33, u33, u41, u41, (eN ((pgE ((dataL la 24) ++ (dataL lb 24))).length)), (Value.bool false), u3, u45, (Value.bool bh), (eN i), u45, (eN ((moveTo (placesL ll 224 5) 32 i).length)), (Value.bool (decide (i < ((moveTo (placesL ll 224 5) 32 i).length))))] ++ (zs z 40 9 ++ [u41, u45, u77, (Value.agg #[(eN ((pgD (flipL (pgE ((dataL la 24) ++ (dataL lb 24))) ((placesL ll 224 5).map (32 + ·)))).1)), u81])] ++ (us 23))) ?_
 refine wpL.done ?_
 refine then_n ?_
 refine wpIn_seq ?_
 refine wpIn_seq ?_
 refine plain ?_
 refine wI (d_move rfl) ?_
 refine wI (d_lenS rfl Try.underlying23 rfl (f46.seq (X := No) (fun _ _ h => h))) ?_
 refine wI (n_gtr (a := (((placesL ll 224 5).map (32 + ·)).length)) (b := 3) rfl rfl rfl) ?_
 refine wF ([u1, u2, u3, (Value.bool bh), undef, undef, undef, undef, (Value.bool false), u15, u19, u33, u41, u45, (eN 32), (eN i), (ptr b83 0), (Value.bool true), (Value.bool false), u1, u15, u2, u19, (sli b21 0 0 0), u15, u27, u19, u33, u33, u41, u41, (eN ((pgE ((dataL la 24) ++ (dataL lb 24))).length)), (Value.bool false), u3, u45, (Value.bool bh), (eN i), u45, (eN ((moveTo (placesL ll 224 5) 32 i).length)), (Value.bool (decide (i < ((moveTo (placesL ll 224 5) 32 i).length))))] ++ (zs z 40 9 ++ [u41, u45, u77, (Value.agg #[(eN ((pgD (flipL (pgE ((dataL la 24) ++ (dataL lb 24))) ((placesL ll 224 5).map (32 + ·)))).1)), u81]), u45, (eN (((placesL ll 224 5).map (32 + ·)).length)), (Value.bool (decide (3 < (((placesL ll 224 5).map (32 + ·)).length))))] ++ (us 20))) ?_
 refine wpL.done ?_
 refine then_n ?_
 refine cond_if rfl (fun d0 => ?_) (fun d0 => ?_)
 ·
  refine wpIn_seq ?_
  refine plain ?_
  refine wI (d_fieldAddr (j := 0) Try.underlying32 rfl s_ti3 (by decide) rfl rfl) ?_
  refine wI (d_load (v := (eN ((pgD (flipL (pgE ((dataL la 24) ++ (dataL lb 24))) ((placesL ll 224 5).map (32 + ·)))).1))) ⟨_, Try.underlying3, rfl⟩ rfl a89 rfl) ?_
  refine wI (n_eql (a := ((pgD (flipL (pgE ((dataL la 24) ++ (dataL lb 24))) ((placesL ll 224 5).map (32 + ·)))).1)) (b := 1) rfl rfl (decide_eq_true (by rw [pg_half4 hd_ ll, if_pos (by rw [List.length_map] at d0; exact d0)]))) ?_
  refine wF ([u1, u2, u3, (Value.bool bh), undef, undef, undef, undef, (Value.bool false), u15, u19, u33, u41, u45, (eN 32), (eN i), (ptr b83 0), (Value.bool true), (Value.bool false), u1, u15, u2, u19, (sli b21 0 0 0), u15, u27, u19, u33, u33, u41, u41, (eN ((pgE ((dataL la 24) ++ (dataL lb 24))).length)), (Value.bool false), u3, u45, (Value.bool bh), (eN i), u45, (eN ((moveTo (placesL ll 224 5) 32 i).length)), (Value.bool (decide (i < ((moveTo (placesL ll 224 5) 32 i).length))))] ++ (zs z 40 9 ++ [u41, u45, u77, (Value.agg #[(eN ((pgD (flipL (pgE ((dataL la 24) ++ (dataL lb 24))) ((placesL ll 224 5).map (32 + ·)))).1)), u81]), u45, (eN (((placesL ll 224 5).map (32 + ·)).length)), (Value.bool (decide (3 < (((placesL ll 224 5).map (32 + ·)).length)))), (ptr b83 0), (eN ((pgD (flipL (pgE ((dataL la 24) ++ (dataL lb 24))) ((placesL ll 224 5).map (32 + ·)))).1)), (Value.bool true)] ++ (us 17))) ?_
  refine wI (d_move rfl) ?_
  refine wpL.onis rfl rfl rfl (nb rfl) rfl (d_fieldAddr (j := 1) Try.underlying32 rfl s_ti22 (by decide) rfl rfl) ?_
  refine wpL.onis rfl rfl rfl (nb rfl) rfl (d_load (v := u81) ⟨_, Try.underlying22, rfl⟩ rfl a89 rfl) ?_
  refine wF ([u1, u2, u3, (Value.bool bh), undef, undef, undef, undef, (Value.bool false), u15, u19, u33, u41, u45, (eN 32), (eN i), (ptr b83 0), (Value.bool true), (Value.bool false), u1, u15, u2, u19, (sli b21 0 0 0), u15, u27, u19, u33, u33, u41, u41, (eN ((pgE ((dataL la 24) ++ (dataL lb 24))).length)), (Value.bool false), u3, u45, (Value.bool bh), (eN i), u45, (eN ((moveTo (placesL ll 224 5) 32 i).length)), (Value.bool (decide (i < ((moveTo (placesL ll 224 5) 32 i).length))))] ++ (zs z 40 9 ++ [u41, u45, u77, (Value.agg #[(eN ((pgD (flipL (pgE ((dataL la 24) ++ (dataL lb 24))) ((placesL ll 224 5).map (32 + ·)))).1)), u81]), u45, (eN (((placesL ll 224 5).map (32 + ·)).length)), (Value.bool (decide (3 < (((placesL ll 224 5).map (32 + ·)).length)))), (ptr b83 0), (eN ((pgD (flipL (pgE ((dataL la 24) ++ (dataL lb 24))) ((placesL ll 224 5).map (32 + ·)))).1)), (Value.bool true), (Value.bool true), (ptr b83 1), u81] ++ (us 14))) ?_
  refine wpL.onis rfl rfl rfl (nb rfl) rfl (d_lenS rfl Try.underlying22 rfl f82) ?_
  refine wpL.onis rfl rfl rfl (nb rfl) rfl (n_eql (a := (((pgD (flipL (pgE ((dataL la 24) ++ (dataL lb 24))) ((placesL ll 224 5).map (32 + ·)))).2).length)) (b := 0) rfl rfl (decide_eq_true (by rw [pg_half4 hd_ ll, if_pos (by rw [List.length_map] at d0; exact d0)]; rfl))) ?_
  refine wI (d_pick (b := true) (v := (Value.bool true)) rfl rfl) ?_
  refine wF ([u1, u2, u3, (Value.bool bh), undef, undef, undef, undef, (Value.bool false), u15, u19, u33, u41, u45, (eN 32), (eN i), (ptr b83 0), (Value.bool true), (Value.bool false), u1, u15, u2, u19, (sli b21 0 0 0), u15, u27, u19, u33, u33, u41, u41, (eN ((pgE ((dataL la 24) ++ (dataL lb 24))).length)), (Value.bool false), u3, u45, (Value.bool bh), (eN i), u45, (eN ((moveTo (placesL ll 224 5) 32 i).length)), (Value.bool (decide (i < ((moveTo (placesL ll 224 5) 32 i).length))))] ++ (zs z 40 9 ++ [u41, u45, u77, (Value.agg #[(eN ((pgD (flipL (pgE ((dataL la 24) ++ (dataL lb 24))) ((placesL ll 224 5).map (32 + ·)))).1)), u81]), u45, (eN (((placesL ll 224 5).map (32 + ·)).length)), (Value.bool (decide (3 < (((placesL ll 224 5).map (32 + ·)).length)))), (ptr b83 0), (eN ((pgD (flipL (pgE ((dataL la 24) ++ (dataL lb 24))) ((placesL ll 224 5).map (32 + ·)))).1)), (Value.bool true), (Value.bool true), (ptr b83 1), u81, (eN (((pgD (flipL (pgE ((dataL la 24) ++ (dataL lb 24))) ((placesL ll 224 5).map (32 + ·)))).2).length)), (Value.bool true), (Value.bool true)] ++ (us 11))) ?_
  refine wI (d_assign rfl) ?_
  refine wF ([u1, u2, u3, (Value.bool bh), undef, undef, undef, undef, (Value.bool true), u15, u19, u33, u41, u45, (eN 32), (eN i), (ptr b83 0), (Value.bool true), (Value.bool false), u1, u15, u2, u19, (sli b21 0 0 0), u15, u27, u19, u33, u33, u41, u41, (eN ((pgE ((dataL la 24) ++ (dataL lb 24))).length)), (Value.bool false), u3, u45, (Value.bool bh), (eN i), u45, (eN ((moveTo (placesL ll 224 5) 32 i).length)), (Value.bool (decide (i < ((moveTo (placesL ll 224 5) 32 i).length))))] ++ (zs z 40 9 ++ [u41, u45, u77, (Value.agg #[(eN ((pgD (flipL (pgE ((dataL la 24) ++ (dataL lb 24))) ((placesL ll 224 5).map (32 + ·)))).1)), u81]), u45, (eN (((placesL ll 224 5).map (32 + ·)).length)), (Value.bool (decide (3 < (((placesL ll 224 5).map (32 + ·)).length)))), (ptr b83 0), (eN ((pgD (flipL (pgE ((dataL la 24) ++ (dataL lb 24))) ((placesL ll 224 5).map (32 + ·)))).1)), (Value.bool true), (Value.bool true), (ptr b83 1), u81, (eN (((pgD (flipL (pgE ((dataL la 24) ++ (dataL lb 24))) ((placesL ll 224 5).map (32 + ·)))).2).length)), (Value.bool true), (Value.bool true)] ++ (us 11))) ?_
  refine wpL.done ?_
  refine then_n ?_
  refine wpIn_ret ?_
  refine then_r ?_
  refine leave0 (v := (Value.bool true)) (res1 Try.results6 rfl) ?_
  exact ⟨rfl, oW⟩
 refine wpIn_skip ?_
 refine then_n ?_
 refine wpIn_seq ?_
 refine plain ?_
 refine wI (d_fieldAddr (j := 0) Try.underlying32 rfl s_ti3 (by decide) rfl rfl) ?_
 refine wI (d_load (v := (eN ((pgD (flipL (pgE ((dataL la 24) ++ (dataL lb 24))) ((placesL ll 224 5).map (32 + ·)))).1))) ⟨_, Try.underlying3, rfl⟩ rfl a89 rfl) ?_
 refine wI (n_eql (a := ((pgD (flipL (pgE ((dataL la 24) ++ (dataL lb 24))) ((placesL ll 224 5).map (32 + ·)))).1)) (b := 2) rfl rfl (decide_eq_true (by rw [pg_half4 hd_ ll, if_neg (by rw [List.length_map] at d0; exact d0)]))) ?_
 refine wF ([u1, u2, u3, (Value.bool bh), undef, undef, undef, undef, (Value.bool false), u15, u19, u33, u41, u45, (eN 32), (eN i), (ptr b83 0), (Value.bool true), (Value.bool false), u1, u15, u2, u19, (sli b21 0 0 0), u15, u27, u19, u33, u33, u41, u41, (eN ((pgE ((dataL la 24) ++ (dataL lb 24))).length)), (Value.bool false), u3, u45, (Value.bool bh), (eN i), u45, (eN ((moveTo (placesL ll 224 5) 32 i).length)), (Value.bool (decide (i < ((moveTo (placesL ll 224 5) 32 i).length))))] ++ (zs z 40 9 ++ [u41, u45, u77, (Value.agg #[(eN ((pgD (flipL (pgE ((dataL la 24) ++ (dataL lb 24))) ((placesL ll 224 5).map (32 + ·)))).1)), u81]), u45, (eN (((placesL ll 224 5).map (32 + ·)).length)), (Value.bool (decide (3 < (((placesL ll 224 5).map (32 + ·)).length))))] ++ (us 9 ++ [(ptr b83 0), (eN ((pgD (flipL (pgE ((dataL la 24) ++ (dataL lb 24))) ((placesL ll 224 5).map (32 + ·)))).1)), (Value.bool true)] ++ (us 8)))) ?_
 refine wI (d_move rfl) ?_
 refine wpL.onis rfl rfl rfl (nb rfl) rfl (d_fieldAddr (j := 1) Try.underlying32 rfl s_ti22 (by decide) rfl rfl) ?_
 refine wpL.onis rfl rfl rfl (nb rfl) rfl (d_load (v := u81) ⟨_, Try.underlying22, rfl⟩ rfl a89 rfl) ?_
 refine wF ([u1, u2, u3, (Value.bool bh), undef, undef, undef, undef, (Value.bool false), u15, u19, u33, u41, u45, (eN 32), (eN i), (ptr b83 0), (Value.bool true), (Value.bool false), u1, u15, u2, u19, (sli b21 0 0 0), u15, u27, u19, u33, u33, u41, u41, (eN ((pgE ((dataL la 24) ++ (dataL lb 24))).length)), (Value.bool false), u3, u45, (Value.bool bh), (eN i), u45, (eN ((moveTo (placesL ll 224 5) 32 i).length)), (Value.bool (decide (i < ((moveTo (placesL ll 224 5) 32 i).length))))] ++ (zs z 40 9 ++ [u41, u45, u77, (Value.agg #[(eN ((pgD (flipL (pgE ((dataL la 24) ++ (dataL lb 24))) ((placesL ll 224 5).map (32 + ·)))).1)), u81]), u45, (eN (((placesL ll 224 5).map (32 + ·)).length)), (Value.bool (decide (3 < (((placesL ll 224 5).map (32 + ·)).length))))] ++ (us 9 ++ [(ptr b83 0), (eN ((pgD (flipL (pgE ((dataL la 24) ++ (dataL lb 24))) ((placesL ll 224 5).map (32 + ·)))).1)), (Value.bool true), (Value.bool true), (ptr b83 1), u81] ++ (us 5)))) ?_
 refine wpL.onis rfl rfl rfl (nb rfl) rfl (d_str Try.underlying22 Try.underlying5 Try.underlying9 rfl f82) ?_
 refine wpL.onis rfl rfl rfl (nb rfl) rfl (d_move rfl) ?_
 refine wpL.onis rfl rfl rfl (nb rfl) rfl (d_str Try.underlying22 Try.underlying5 Try.underlying9 rfl (a36.seq (X := No) (fun _ _ h => h))) ?_
 refine wF ([u1, u2, u3, (Value.bool bh), undef, undef, undef, undef, (Value.bool false), u15, u19, u33, u41, u45, (eN 32), (eN i), (ptr b83 0), (Value.bool true), (Value.bool false), u1, u15, u2, u19, (sli b21 0 0 0), u15, u27, u19, u33, u33, u41, u41, (eN ((pgE ((dataL la 24) ++ (dataL lb 24))).length)), (Value.bool false), u3, u45, (Value.bool bh), (eN i), u45, (eN ((moveTo (placesL ll 224 5) 32 i).length)), (Value.bool (decide (i < ((moveTo (placesL ll 224 5) 32 i).length))))] ++ (zs z 40 9 ++ [u41, u45, u77, (Value.agg #[(eN ((pgD (flipL (pgE ((dataL la 24) ++ (dataL lb 24))) ((placesL ll 224 5).map (32 + ·)))).1)), u81]), u45, (eN (((placesL ll 224 5).map (32 + ·)).length)), (Value.bool (decide (3 < (((placesL ll 224 5).map (32 + ·)).length))))] ++ (us 9 ++ [(ptr b83 0), (eN ((pgD (flipL (pgE ((dataL la 24) ++ (dataL lb 24))) ((placesL ll 224 5).map (32 + ·)))).1)), (Value.bool true), (Value.bool true), (ptr b83 1), u81, (Value.string (strOf ((pgD (flipL (pgE ((dataL la 24) ++ (dataL lb 24))) ((placesL ll 224 5).map (32 + ·)))).2))), u33, (Value.string (strOf ((dataL la 24) ++ (dataL lb 24)))), undef, undef]))) ?_
 refine wpL.onis rfl rfl rfl (nb rfl) rfl (d_seql (a := ((pgD (flipL (pgE ((dataL la 24) ++ (dataL lb 24))) ((placesL ll 224 5).map (32 + ·)))).2)) (c := ((dataL la 24) ++ (dataL lb 24))) rfl rfl (decide_eq_true (by rw [pg_half4 hd_ ll, if_neg (by rw [List.length_map] at d0; exact d0)]))) ?_
 refine wI (d_pick (b := true) (v := (Value.bool true)) rfl rfl) ?_
 refine wI (d_assign rfl) ?_
 refine wF ([u1, u2, u3, (Value.bool bh), undef, undef, undef, undef, (Value.bool true), u15, u19, u33, u41, u45, (eN 32), (eN i), (ptr b83 0), (Value.bool true), (Value.bool false), u1, u15, u2, u19, (sli b21 0 0 0), u15, u27, u19, u33, u33, u41, u41, (eN ((pgE ((dataL la 24) ++ (dataL lb 24))).length)), (Value.bool false), u3, u45, (Value.bool bh), (eN i), u45, (eN ((moveTo (placesL ll 224 5) 32 i).length)), (Value.bool (decide (i < ((moveTo (placesL ll 224 5) 32 i).length))))] ++ (zs z 40 9 ++ [u41, u45, u77, (Value.agg #[(eN ((pgD (flipL (pgE ((dataL la 24) ++ (dataL lb 24))) ((placesL ll 224 5).map (32 + ·)))).1)), u81]), u45, (eN (((placesL ll 224 5).map (32 + ·)).length)), (Value.bool (decide (3 < (((placesL ll 224 5).map (32 + ·)).length))))] ++ (us 9 ++ [(ptr b83 0), (eN ((pgD (flipL (pgE ((dataL la 24) ++ (dataL lb 24))) ((placesL ll 224 5).map (32 + ·)))).1)), (Value.bool true), (Value.bool true), (ptr b83 1), u81, (Value.string (strOf ((pgD (flipL (pgE ((dataL la 24) ++ (dataL lb 24))) ((placesL ll 224 5).map (32 + ·)))).2))), u33, (Value.string (strOf ((dataL la 24) ++ (dataL lb 24)))), (Value.bool true), (Value.bool true)]))) ?_
 refine wpL.done ?_
 refine then_n ?_
 refine wpIn_ret ?_
 refine leave0 (v := (Value.bool true)) (res1 Try.results6 rfl) ?_
 exact ⟨rfl, oW⟩

end Go.Proofs.YtgalehapmdabeaaF
