import Derived.Test.YtkppgdbpadaegaaFl
import Derived.Test.YtkppgdbpadaegaaTy
import Derived.Test.YtkppgdbpadaegaaHutil
import Derived.Test.YtkppgdbpadaegaaMj
set_option linter.unusedVariables false
set_option linter.unusedSimpArgs false
namespace Go.Proofs.YtkppgdbpadaegaaF
open Go Go.Shelf Go.Proofs.YtkppgdbpadaegaaS Ram
set_option maxRecDepth 20000 in
set_option maxHeartbeats 1000000 in
theorem bchSyndromesAdd_law (la : List UInt8) (ll : List Int) (u1 u2 : Value) (W : World) (h1 : Ps No (Seq kB la u1) W) (h2 : Ps No (Seq kI ll u2) W) (g1 : la.length ≤ 140737488351232) (g2 : ll.length ≤ 140737488351232) :
    CW Try.prog 7 #[u1, u2] W (Rt (RIs (.bool true) W)) := by
 have oW : Only No W W := Only.refl _ _
 refine enter (al := [u1, u2]) (k := 85) (l := ([u1, u2] ++ (us 85))) Try.func7 rfl Try.ntmps7 rfl rfl ?_
 refine wpIn_seq ?_
 refine plain ?_
 refine wpL.is rfl (d_assign rfl) ?_
 refine wpL.flat ([u1, u2, undef, undef, (Value.bool false)] ++ (us 82)) (by kernel_rfl) ?_
 refine wpL.done ?_
 refine then_n ?_
 refine wpIn_seq ?_
 refine wpIn_seq ?_
 refine plain ?_
 refine wpL.op rfl (d_call (xl := []) (al := []) Try.func13 (by kernel_rfl) rfl rfl rfl (l4known_ok _)) ?_
 rintro _ w11 ⟨rfl, o12⟩
 replace h1 := h1.step0 o12
 replace h2 := h2.step0 o12
 replace oW := oW.tail0 o12
 refine wpL.is rfl (d_not rfl rfl) ?_
 refine wpL.flat ([u1, u2, undef, undef, (Value.bool false)] ++ (us 6 ++ [(Value.bool true), (Value.bool false)] ++ (us 74))) (by kernel_rfl) ?_
 refine wpL.done ?_
 refine then_n ?_
 refine cond_f rfl ?_
 refine wpIn_skip ?_
 refine then_n ?_
 refine wpIn_seq ?_
 refine plain ?_
 refine wpL.is rfl (d_move rfl) ?_
 refine wpL.op rfl (d_call (xl := [.tmp 13, .const (.int .i64 224), .const (.int .i64 20)]) (al := [u2, (eN 224), (eN 20)]) Try.func25 (by kernel_rfl) rfl rfl rfl (l4Places_ok ll 224 20 u2 _ (Ps.no h2) (by omega) (by omega) (by omega) (by omega))) ?_
 rintro u15 w13 f16
 replace f16 := f16.ps
 obtain ⟨f16, o14⟩ := f16
 replace f16 := f16.less (Y := (Old W.heap.size)) (old_old oW.size)
 replace h1 := h1.step0 o14
 replace h2 := h2.step0 o14
 replace oW := oW.tail0 o14
 refine wpL.is rfl (d_assign rfl) ?_
 refine wpL.flat ([u1, u2, undef, undef, (Value.bool false), u15] ++ (us 5 ++ [(Value.bool true), (Value.bool false), u2, u15] ++ (us 72))) (by kernel_rfl) ?_
 refine wpL.done ?_
 refine then_n ?_
 refine wpIn_seq ?_
 refine plain ?_
 refine wpL.is rfl (d_move rfl) ?_
 refine wpL.op rfl (d_call (xl := [.tmp 15, .const (.int .i64 24)]) (al := [u1, (eN 24)]) Try.func14 (by kernel_rfl) rfl rfl rfl (l4Data_ok la 24 u1 _ (Ps.no h1) (by omega))) ?_
 rintro u19 w17 f20
 replace f20 := f20.ps
 obtain ⟨f20, o18⟩ := f20
 replace f20 := f20.less (Y := (Old W.heap.size)) (old_old oW.size)
 replace h1 := h1.step0 o18
 replace h2 := h2.step0 o18
 replace f16 := f16.step0 o18
 replace oW := oW.tail0 o18
 refine wpL.op rfl (d_call (xl := [.tmp 16]) (al := [u19]) Try.func15 (by kernel_rfl) rfl rfl rfl (bchEncode_ok (dataL la 24) u19 _ (Ps.no f20) (by have := dataL_length la 24; first | omega | (simp; done) | (simp; omega)))) ?_
 rintro u23 w21 f24
 replace f24 := f24.ps
 obtain ⟨f24, o22⟩ := f24
 replace f24 := f24.less (Y := (Old W.heap.size)) (old_old oW.size)
 replace h1 := h1.step0 o22
 replace h2 := h2.step0 o22
 replace f16 := f16.step0 o22
 replace f20 := f20.step0 o22
 replace oW := oW.tail0 o22
 refine wpL.flat ([u1, u2, undef, undef, (Value.bool false), u15] ++ (us 5 ++ [(Value.bool true), (Value.bool false), u2, u15, u1, u19, u23] ++ (us 69))) (by kernel_rfl) ?_
 refine wpL.is rfl (d_move rfl) ?_
 refine wpL.op rfl (d_call (xl := [.tmp 17, .tmp 18]) (al := [u23, u15]) Try.func24 (by kernel_rfl) rfl rfl rfl (ref6Flip_ok (encR (dataL la 24)) (placesL ll 224 20) u23 u15 _ (Ps.no f24) (Ps.no f16) (by have := dataL_length la 24; have := encR_len (dataL la 24); first | omega | (simp; done) | (simp; omega)) (by have := places_le ll 224 20; first | omega | (simp; done) | (simp; omega)) (in_place (encR_length (dataL_length _ _)) _ _))) ?_
 rintro u27 w25 f28
 replace f28 := f28.ps
 obtain ⟨f28, o26⟩ := f28
 replace f28 := f28.less (Y := (Old W.heap.size)) (old_old oW.size)
 replace h1 := h1.step0 o26
 replace h2 := h2.step0 o26
 replace f16 := f16.step0 o26
 replace f20 := f20.step0 o26
 replace f24 := f24.step0 o26
 replace oW := oW.tail0 o26
 refine wpL.op rfl (d_call (xl := [.tmp 19]) (al := [u27]) Try.func23 (by kernel_rfl) rfl rfl rfl (bchSyn_ok (flipL (encR (dataL la 24)) (placesL ll 224 20)) u27 _ (Ps.no f28) (by have := flipL_length (encR (dataL la 24)) (placesL ll 224 20); have := places_le ll 224 20; have := dataL_length la 24; have := encR_len (dataL la 24); first | omega | (simp; done) | (simp; omega)))) ?_
 rintro u31 w29 f32
 replace f32 := f32.ps
 obtain ⟨f32, o30⟩ := f32
 replace f32 := f32.less (Y := (Old W.heap.size)) (old_old oW.size)
 replace h1 := h1.step0 o30
 replace h2 := h2.step0 o30
 replace f16 := f16.step0 o30
 replace f20 := f20.step0 o30
 replace f24 := f24.step0 o30
 replace f28 := f28.step0 o30
 replace oW := oW.tail0 o30
 refine wpL.flat ([u1, u2, undef, undef, (Value.bool false), u15] ++ (us 5 ++ [(Value.bool true), (Value.bool false), u2, u15, u1, u19, u23, u15, u27, u31] ++ (us 66))) (by kernel_rfl) ?_
 refine wpL.is rfl (d_assign rfl) ?_
 refine wpL.flat ([u1, u2, undef, undef, (Value.bool false), u15, u31, undef, undef, undef, undef, (Value.bool true), (Value.bool false), u2, u15, u1, u19, u23, u15, u27, u31] ++ (us 66)) (by kernel_rfl) ?_
 refine wpL.done ?_
 refine then_n ?_
 refine forget (fun zf33 => (zs zf33 0 5 ++ [u15, u31, (zf33 7), undef, undef, undef] ++ (zs zf33 11 43 ++ (us 32 ++ [(zf33 86)])))) (by kernel_rfl) (fun zf33 => ?_)
 refine wpIn_seq ?_
 refine plain ?_
 refine wpL.op rfl (d_make1 (n := 28) Try.underlying22 s_ti5 rfl rfl (by omega) (by omega) rfl) ?_
 rintro _ w35 ⟨b34, rfl, g36, a37, o38⟩
 replace a37 : Arr 5 b34 ((List.replicate 28 0).map eB) w35 := by rw [List.map_replicate]; exact a37
 have l_b34 : (List.replicate 28 0 : List UInt8).length = 28 := by simp
 have g_oW_b34 : W.heap.size ≤ b34 := Nat.le_trans oW.size g36
 replace h1 := h1.new o38 g36
 replace h2 := h2.new o38 g36
 replace f16 := f16.new o38 g36
 replace f20 := f20.new o38 g36
 replace f24 := f24.new o38 g36
 replace f28 := f28.new o38 g36
 replace f32 := f32.new o38 g36
 replace oW := oW.tail0 o38
 refine wpL.is rfl (d_move rfl) ?_
 refine wpL.op rfl (d_call (xl := [.tmp 21, .tmp 22]) (al := [(sli b34 0 28 28), u15]) Try.func24 (by kernel_rfl) rfl rfl rfl (ref6Flip_ok (List.replicate 28 0) (placesL ll 224 20) (sli b34 0 28 28) u15 _ (Ps.no (arr_seq a37 l_b34 (Nat.le_refl _))) (Ps.no f16) (by have := rep_len 28 0; first | omega | (simp; done) | (simp; omega)) (by have := places_le ll 224 20; first | omega | (simp; done) | (simp; omega)) (in_place (by rw [List.length_replicate]) _ _))) ?_
 rintro u41 w39 f42
 replace f42 := f42.ps
 obtain ⟨f42, o40⟩ := f42
 replace f42 := f42.less (Y := (Or1 b34 (Old W.heap.size))) (or1_old a37.lt (old_old oW.size))
 replace h1 := h1.step0 o40
 replace h2 := h2.step0 o40
 replace f16 := f16.step0 o40
 replace f20 := f20.step0 o40
 replace f24 := f24.step0 o40
 replace f28 := f28.step0 o40
 replace f32 := f32.step0 o40
 replace a37 := a37.step0 o40
 replace oW := oW.tail0 o40
 refine wpL.flat (zs zf33 0 5 ++ [u15, u31, (zf33 7), undef, undef, undef] ++ (zs zf33 11 10 ++ [(sli b34 0 28 28), u15, u41] ++ (zs zf33 24 30 ++ (us 32 ++ [(zf33 86)])))) (by kernel_rfl) ?_
 refine wpL.op rfl (d_call (xl := [.tmp 23]) (al := [u41]) Try.func23 (by kernel_rfl) rfl rfl rfl (bchSyn_ok (flipL (List.replicate 28 0) (placesL ll 224 20)) u41 _ (Ps.no f42) (by have := rep_len 28 0; have := flipL_length (List.replicate 28 0) (placesL ll 224 20); have := places_le ll 224 20; first | omega | (simp; done) | (simp; omega)))) ?_
 rintro u45 w43 f46
 replace f46 := f46.ps
 obtain ⟨f46, o44⟩ := f46
 replace f46 := f46.less (Y := (Or1 b34 (Old W.heap.size))) (or1_old a37.lt (old_old oW.size))
 replace h1 := h1.step0 o44
 replace h2 := h2.step0 o44
 replace f16 := f16.step0 o44
 replace f20 := f20.step0 o44
 replace f24 := f24.step0 o44
 replace f28 := f28.step0 o44
 replace f32 := f32.step0 o44
 replace f42 := f42.step0 o44
 replace a37 := a37.step0 o44
 replace oW := oW.tail0 o44
 refine wpL.is rfl (d_assign rfl) ?_
 refine wpL.flat (zs zf33 0 5 ++ [u15, u31, u45, undef, undef, undef] ++ (zs zf33 11 10 ++ [(sli b34 0 28 28), u15, u41, u45] ++ (zs zf33 25 29 ++ (us 32 ++ [(zf33 86)])))) (by kernel_rfl) ?_
 refine wpL.done ?_
 have hn_ := places_nodup ll 20 (show 0 < 224 by decide)
 have hl_ := places_in ll 20 (show 0 < 224 by decide)
 have hf_ := places_few ll 20 (show 0 < 224 by decide)
 rw [synR_flip (encR_code (dataL_length la 24)) hn_ hl_] at f32
 rw [synR_flip zero_code hn_ hl_] at f46
 have hs_ := synL_length (placesL ll 224 20)
 refine then_n ?_
 refine wpIn_seq ?_
 refine wpIn_seq ?_
 refine plain ?_
 refine wpL.is rfl (d_move rfl) ?_
 refine wpL.is rfl (d_lenS rfl Try.underlying22 rfl f32) ?_
 refine wpL.is rfl (n_neq (a := ((synL (placesL ll 224 20)).length)) (b := 8) rfl rfl (by rw [decide_eq_true hs_] <;> rfl)) ?_
 refine wpL.flat (zs zf33 0 5 ++ [u15, u31, u45, undef, undef, undef] ++ (zs zf33 11 10 ++ [(sli b34 0 28 28), u15, u41, u45, u31, (eN ((synL (placesL ll 224 20)).length)), (Value.bool false)] ++ (zs zf33 28 26 ++ (us 32 ++ [(zf33 86)])))) (by kernel_rfl) ?_
 refine wpL.is rfl (d_move rfl) ?_
 refine wpL.onis rfl rfl rfl (Nat.le_of_ble_eq_true rfl) rfl (d_move rfl) ?_
 refine wpL.onis rfl rfl rfl (Nat.le_of_ble_eq_true rfl) rfl (d_str Try.underlying22 Try.underlying5 Try.underlying9 rfl f32) ?_
 refine wpL.flat (zs zf33 0 5 ++ [u15, u31, u45, undef, undef, undef] ++ (zs zf33 11 10 ++ [(sli b34 0 28 28), u15, u41, u45, u31, (eN ((synL (placesL ll 224 20)).length)), (Value.bool false), (Value.bool false), u31, (Value.string (strOf (synL (placesL ll 224 20))))] ++ (zs zf33 31 23 ++ (us 32 ++ [(zf33 86)])))) (by kernel_rfl) ?_
 refine wpL.onis rfl rfl rfl (Nat.le_of_ble_eq_true rfl) rfl (d_move rfl) ?_
 refine wpL.onis rfl rfl rfl (Nat.le_of_ble_eq_true rfl) rfl (d_str Try.underlying22 Try.underlying5 Try.underlying9 rfl f46) ?_
 refine wpL.onis rfl rfl rfl (Nat.le_of_ble_eq_true rfl) rfl (d_sneq (a := (synL (placesL ll 224 20))) (c := (synL (placesL ll 224 20))) rfl rfl (by rw [decide_eq_true rfl] <;> rfl)) ?_
 refine wpL.flat (zs zf33 0 5 ++ [u15, u31, u45, undef, undef, undef] ++ (zs zf33 11 10 ++ [(sli b34 0 28 28), u15, u41, u45, u31, (eN ((synL (placesL ll 224 20)).length)), (Value.bool false), (Value.bool false), u31, (Value.string (strOf (synL (placesL ll 224 20)))), u45, (Value.string (strOf (synL (placesL ll 224 20)))), (Value.bool false)] ++ (zs zf33 34 20 ++ (us 32 ++ [(zf33 86)])))) (by kernel_rfl) ?_
 refine wpL.is rfl (d_pick (b := false) (v := (Value.bool false)) rfl rfl) ?_
 refine wpL.flat (zs zf33 0 5 ++ [u15, u31, u45, undef, undef, undef] ++ (zs zf33 11 10 ++ [(sli b34 0 28 28), u15, u41, u45, u31, (eN ((synL (placesL ll 224 20)).length)), (Value.bool false), (Value.bool false), u31, (Value.string (strOf (synL (placesL ll 224 20)))), u45, (Value.string (strOf (synL (placesL ll 224 20)))), (Value.bool false), (Value.bool false)] ++ (zs zf33 35 19 ++ (us 32 ++ [(zf33 86)])))) (by kernel_rfl) ?_
 refine wpL.done ?_
 refine then_n ?_
 refine forget (fun zf47 => (zs zf47 0 5 ++ [u15, u31, (zf47 7), undef, undef, undef] ++ (zs zf47 11 23 ++ [(Value.bool false)] ++ (zs zf47 35 19 ++ (us 32 ++ [(zf47 86)]))))) (by kernel_rfl) (fun zf47 => ?_)
 refine cond_f rfl ?_
 refine wpIn_skip ?_
 refine then_n ?_
 refine wpIn_seq ?_
 refine wpIn_seq ?_
 refine plain ?_
 refine wpL.is rfl (d_assign rfl) ?_
 refine wpL.flat (zs zf47 0 5 ++ [u15, u31, (zf47 7), (eN 1), undef, undef] ++ (zs zf47 11 23 ++ [(Value.bool false)] ++ (zs zf47 35 19 ++ (us 32 ++ [(zf47 86)])))) (by kernel_rfl) ?_
 refine wpL.done ?_
 refine then_n ?_
 refine wpIn_block ?_
 refine loop2 (fun (i : (Nat)) => fun (z : Nat → Value) => (([(zf47 0), (zf47 1), (zf47 2), (zf47 3), (z 4), u15, u31, (zf47 7), (eN i), (z 9), (z 10)] ++ (zs zf47 11 23 ++ [(Value.bool false)] ++ (zs z 35 52))) : List Value)) (fun (i : (Nat)) => fun (w_ : World) => (1 ≤ i ∧ i ≤ 9) ∧ Only (Or1 b34 No) w43 w_ ∧ Arr 5 b34 ((List.replicate 28 0).map eB) w_) (fun (i : (Nat)) => 9 - i) 1 rfl ?_ ?_
 ·
  refine ⟨?_, ?_, ?_⟩
  ·
   (try dsimp only)
   all_goals (omega)
  ·
   (try dsimp only)
   all_goals (exact Only.refl _ _)
  ·
   (try dsimp only)
   all_goals (exact a37)
 ·
  rintro i z w49 ⟨hi, o48, a37⟩
  (try dsimp only)
  replace h1 := h1.step o48 (or1_mono no_any)
  replace h2 := h2.step o48 (or1_mono no_any)
  replace f16 := f16.step o48 (or1_mono no_any)
  replace f20 := f20.step o48 (or1_mono no_any)
  replace f24 := f24.step o48 (or1_mono no_any)
  replace f28 := f28.step o48 (or1_mono no_any)
  replace f32 := f32.step o48 (or1_mono no_any)
  replace f42 := f42.step o48 (or1_mono no_any)
  replace f46 := f46.step o48 (or1_mono no_any)
  replace oW := oW.tail o48 (tl_new g_oW_b34 tl_no)
  refine wpIn_seq ?_
  refine wpIn_seq ?_
  refine plain ?_
  refine wpL.is rfl (d_move rfl) ?_
  refine wpL.is rfl (n_leq (a := i) (b := 8) rfl rfl rfl) ?_
  refine wpL.flat ([(zf47 0), (zf47 1), (zf47 2), (zf47 3), (z 4), u15, u31, (zf47 7), (eN i), (z 9), (z 10)] ++ (zs zf47 11 23 ++ [(Value.bool false), (eN i), (Value.bool (decide (i ≤ 8)))] ++ (zs z 37 50))) (by kernel_rfl) ?_
  refine wpL.done ?_
  refine then_n ?_
  refine cond_if rfl (fun c0 => ?_) (fun c0 => ?_)
  ·
   refine wpIn_skip ?_
   refine then_n ?_
   refine wpIn_seq ?_
   refine wpIn_block ?_
   refine wpIn_seq ?_
   refine plain ?_
   refine wpL.is rfl (d_assign rfl) ?_
   refine wpL.flat ([(zf47 0), (zf47 1), (zf47 2), (zf47 3), (z 4), u15, u31, (zf47 7), (eN i), (eB 0), (z 10)] ++ (zs zf47 11 23 ++ [(Value.bool false), (eN i), (Value.bool (decide (i ≤ 8)))] ++ (zs z 37 50))) (by kernel_rfl) ?_
   refine wpL.done ?_
   refine then_n ?_
   refine wpIn_seq ?_
   refine wpIn_seq ?_
   refine plain ?_
   refine wpL.is rfl (d_assign rfl) ?_
   refine wpL.flat ([(zf47 0), (zf47 1), (zf47 2), (zf47 3), (z 4), u15, u31, (zf47 7), (eN i), (eB 0), (eN 0)] ++ (zs zf47 11 23 ++ [(Value.bool false), (eN i), (Value.bool (decide (i ≤ 8)))] ++ (zs z 37 50))) (by kernel_rfl) ?_
   refine wpL.done ?_
   refine fr_eq (l' := ([(zf47 0), (zf47 1), (zf47 2), (zf47 3), (z 4), u15, u31, (zf47 7), (eN i), (eB (syn ((placesL ll 224 20).take 0) i)), (eN 0)] ++ (zs zf47 11 23 ++ [(Value.bool false), (eN i), (Value.bool (decide (i ≤ 8)))] ++ (zs z 37 50)))) (show (([(zf47 0), (zf47 1), (zf47 2), (zf47 3), (z 4), u15, u31, (zf47 7), (eN i), (eB 0), (eN 0)] ++ (zs zf47 11 23 ++ [(Value.bool false), (eN i), (Value.bool (decide (i ≤ 8)))] ++ (zs z 37 50))) : List Value) = ([(zf47 0), (zf47 1), (zf47 2), (zf47 3), (z 4), u15, u31, (zf47 7), (eN i), (eB (syn ((placesL ll 224 20).take 0) i)), (eN 0)] ++ (zs zf47 11 23 ++ [(Value.bool false), (eN i), (Value.bool (decide (i ≤ 8)))] ++ (zs z 37 50))) from reslot ([(zf47 0), (zf47 1), (zf47 2), (zf47 3), (z 4), u15, u31, (zf47 7), (eN i), (eB 0), (eN 0)] ++ (zs zf47 11 23 ++ [(Value.bool false), (eN i), (Value.bool (decide (i ≤ 8)))] ++ (zs z 37 50))) 9 rfl) ?_
   refine then_n ?_
   refine wpIn_block ?_
   refine loop2 (fun (j : (Nat)) => fun (z : Nat → Value) => (([(zf47 0), (zf47 1), (zf47 2), (zf47 3), (z 4), u15, u31, (zf47 7), (eN i), (eB (syn ((placesL ll 224 20).take j) i)), (eN j)] ++ (zs zf47 11 23 ++ [(Value.bool false), (eN i), (Value.bool (decide (i ≤ 8)))] ++ (zs z 37 50))) : List Value)) (fun (j : (Nat)) => fun (w_ : World) => (j ≤ (placesL ll 224 20).length) ∧ Only (Or1 b34 No) w49 w_ ∧ Arr 5 b34 ((List.replicate 28 0).map eB) w_) (fun (j : (Nat)) => (placesL ll 224 20).length - j) 0 rfl ?_ ?_
   ·
    refine ⟨?_, ?_, ?_⟩
    ·
     (try dsimp only)
     all_goals (exact Nat.zero_le _)
    ·
     (try dsimp only)
     all_goals (exact Only.refl _ _)
    ·
     (try dsimp only)
     all_goals (exact a37)
   ·
    rintro j z w51 ⟨hj, o50, a37⟩
    (try dsimp only)
    replace h1 := h1.step o50 (or1_mono no_any)
    replace h2 := h2.step o50 (or1_mono no_any)
    replace f16 := f16.step o50 (or1_mono no_any)
    replace f20 := f20.step o50 (or1_mono no_any)
    replace f24 := f24.step o50 (or1_mono no_any)
    replace f28 := f28.step o50 (or1_mono no_any)
    replace f32 := f32.step o50 (or1_mono no_any)
    replace f42 := f42.step o50 (or1_mono no_any)
    replace f46 := f46.step o50 (or1_mono no_any)
    replace oW := oW.tail o50 (tl_new g_oW_b34 tl_no)
    replace o48 := o48.tail o50 (tl_in in1 tl_no)
    refine wpIn_seq ?_
    refine wpIn_seq ?_
    refine plain ?_
    refine wpL.is rfl (d_move rfl) ?_
    refine wpL.is rfl (d_move rfl) ?_
    refine wpL.is rfl (d_lenS rfl Try.underlying26 rfl f16) ?_
    refine wpL.flat ([(zf47 0), (zf47 1), (zf47 2), (zf47 3), (z 4), u15, u31, (zf47 7), (eN i), (eB (syn ((placesL ll 224 20).take j) i)), (eN j)] ++ (zs zf47 11 23 ++ [(Value.bool false), (eN i), (Value.bool (decide (i ≤ 8))), (z 37), (z 38), (eN j), u15, (eN ((placesL ll 224 20).length))] ++ (zs z 42 45))) (by kernel_rfl) ?_
    refine wpL.is rfl (n_lss (a := j) (b := ((placesL ll 224 20).length)) rfl rfl rfl) ?_
    refine wpL.flat ([(zf47 0), (zf47 1), (zf47 2), (zf47 3), (z 4), u15, u31, (zf47 7), (eN i), (eB (syn ((placesL ll 224 20).take j) i)), (eN j)] ++ (zs zf47 11 23 ++ [(Value.bool false), (eN i), (Value.bool (decide (i ≤ 8))), (z 37), (z 38), (eN j), u15, (eN ((placesL ll 224 20).length)), (Value.bool (decide (j < ((placesL ll 224 20).length))))] ++ (zs z 43 44))) (by kernel_rfl) ?_
    refine wpL.done ?_
    refine then_n ?_
    refine cond_if rfl (fun c1 => ?_) (fun c1 => ?_)
    ·
     have hx_ := getD_lt hl_ c1
     refine wpIn_skip ?_
     refine then_n ?_
     refine wpIn_seq ?_
     refine wpIn_block ?_
     refine plain ?_
     refine wpL.is rfl (d_move rfl) ?_
     refine wpL.is rfl (d_move rfl) ?_
     refine wpL.is rfl (d_move rfl) ?_
     refine wpL.flat ([(zf47 0), (zf47 1), (zf47 2), (zf47 3), (z 4), u15, u31, (zf47 7), (eN i), (eB (syn ((placesL ll 224 20).take j) i)), (eN j)] ++ (zs zf47 11 23 ++ [(Value.bool false), (eN i), (Value.bool (decide (i ≤ 8))), (z 37), (z 38), (eN j), u15, (eN ((placesL ll 224 20).length)), (Value.bool (decide (j < ((placesL ll 224 20).length)))), (z 43), (z 44), (eB (syn ((placesL ll 224 20).take j) i)), u15, (eN j)] ++ (zs z 48 39))) (by kernel_rfl) ?_
     refine wpL.is rfl (d_ix (i := j) (xs := (placesL ll 224 20)) Try.underlying26 s_ti3 rfl f16 (show _ = Value.int _ ((j : Nat) : Int) from rfl) (by have := places_le ll 224 20; first | omega | (simp; done) | (simp; omega))) ?_
     refine wpL.is rfl (d_ldx (i := j) (xs := (placesL ll 224 20)) (enc := eN) (v := ((placesL ll 224 20).getD j 0)) ⟨_, Try.underlying3, rfl⟩ rfl f16 (g_at (by have := places_le ll 224 20; first | omega | (simp; done) | (simp; omega)))) ?_
     refine wpL.is rfl (d_move rfl) ?_
     refine wpL.flat ([(zf47 0), (zf47 1), (zf47 2), (zf47 3), (z 4), u15, u31, (zf47 7), (eN i), (eB (syn ((placesL ll 224 20).take j) i)), (eN j)] ++ (zs zf47 11 23 ++ [(Value.bool false), (eN i), (Value.bool (decide (i ≤ 8))), (z 37), (z 38), (eN j), u15, (eN ((placesL ll 224 20).length)), (Value.bool (decide (j < ((placesL ll 224 20).length)))), (z 43), (z 44), (eB (syn ((placesL ll 224 20).take j) i)), u15, (eN j), (ixp u15 j), (eN ((placesL ll 224 20).getD j 0)), (eN i)] ++ (zs z 51 36))) (by kernel_rfl) ?_
     refine wpL.is rfl (n_mul (a := ((placesL ll 224 20).getD j 0)) (b := i) rfl rfl (by have h__ : (placesL ll 224 20).getD j 0 * i ≤ 224 * 8 := Nat.mul_le_mul (by omega) (by omega); omega)) ?_
     refine wpL.op rfl (d_call (xl := [.tmp 51]) (al := [(eN (((placesL ll 224 20).getD j 0) * i))]) Try.func19 (by kernel_rfl) rfl rfl rfl (ref2Exp_ok ((((placesL ll 224 20).getD j 0) * i : Nat) : Int) _)) ?_
     rintro _ w52 ⟨rfl, o53⟩
     replace h1 := h1.step0 o53
     replace h2 := h2.step0 o53
     replace f16 := f16.step0 o53
     replace f20 := f20.step0 o53
     replace f24 := f24.step0 o53
     replace f28 := f28.step0 o53
     replace f32 := f32.step0 o53
     replace f42 := f42.step0 o53
     replace f46 := f46.step0 o53
     replace a37 := a37.step0 o53
     replace oW := oW.tail0 o53
     replace o48 := o48.tail0 o53
     replace o50 := o50.tail0 o53
     refine wpL.is rfl (b_xor (c := (syn ((placesL ll 224 20).take j) i)) (e := (exI ((((placesL ll 224 20).getD j 0) * i : Nat) : Int))) rfl rfl) ?_
     refine wpL.flat ([(zf47 0), (zf47 1), (zf47 2), (zf47 3), (z 4), u15, u31, (zf47 7), (eN i), (eB (syn ((placesL ll 224 20).take j) i)), (eN j)] ++ (zs zf47 11 23 ++ [(Value.bool false), (eN i), (Value.bool (decide (i ≤ 8))), (z 37), (z 38), (eN j), u15, (eN ((placesL ll 224 20).length)), (Value.bool (decide (j < ((placesL ll 224 20).length)))), (z 43), (z 44), (eB (syn ((placesL ll 224 20).take j) i)), u15, (eN j), (ixp u15 j), (eN ((placesL ll 224 20).getD j 0)), (eN i), (eN (((placesL ll 224 20).getD j 0) * i)), (eB (exI ((((placesL ll 224 20).getD j 0) * i : Nat) : Int))), (eB ((syn ((placesL ll 224 20).take j) i) ^^^ (exI ((((placesL ll 224 20).getD j 0) * i : Nat) : Int))))] ++ (zs z 54 33))) (by kernel_rfl) ?_
     refine wpL.is rfl (d_assign rfl) ?_
     refine wpL.flat ([(zf47 0), (zf47 1), (zf47 2), (zf47 3), (z 4), u15, u31, (zf47 7), (eN i), (eB ((syn ((placesL ll 224 20).take j) i) ^^^ (exI ((((placesL ll 224 20).getD j 0) * i : Nat) : Int)))), (eN j)] ++ (zs zf47 11 23 ++ [(Value.bool false), (eN i), (Value.bool (decide (i ≤ 8))), (z 37), (z 38), (eN j), u15, (eN ((placesL ll 224 20).length)), (Value.bool (decide (j < ((placesL ll 224 20).length)))), (z 43), (z 44), (eB (syn ((placesL ll 224 20).take j) i)), u15, (eN j), (ixp u15 j), (eN ((placesL ll 224 20).getD j 0)), (eN i), (eN (((placesL ll 224 20).getD j 0) * i)), (eB (exI ((((placesL ll 224 20).getD j 0) * i : Nat) : Int))), (eB ((syn ((placesL ll 224 20).take j) i) ^^^ (exI ((((placesL ll 224 20).getD j 0) * i : Nat) : Int))))] ++ (zs z 54 33))) (by kernel_rfl) ?_
     refine wpL.done ?_
     refine inb_n (then_n ?_)
     refine forget (fun zf54 => ([(zf47 0), (zf47 1), (zf47 2), (zf47 3), (z 4), u15, u31, (zf47 7), (eN i), (eB ((syn ((placesL ll 224 20).take j) i) ^^^ (exI ((((placesL ll 224 20).getD j 0) * i : Nat) : Int)))), (eN j)] ++ (zs zf47 11 23 ++ [(Value.bool false), (eN i), (Value.bool (decide (i ≤ 8))), (z 37), (z 38)] ++ (zs zf54 39 15 ++ (zs z 54 33))))) (by kernel_rfl) (fun zf54 => ?_)
     refine plain ?_
     refine wpL.is rfl (d_move rfl) ?_
     refine wpL.is rfl (n_add (a := j) (b := 1) rfl rfl (by omega)) ?_
     refine wpL.is rfl (d_assign rfl) ?_
     refine wpL.flat ([(zf47 0), (zf47 1), (zf47 2), (zf47 3), (z 4), u15, u31, (zf47 7), (eN i), (eB ((syn ((placesL ll 224 20).take j) i) ^^^ (exI ((((placesL ll 224 20).getD j 0) * i : Nat) : Int)))), (eN (j + 1))] ++ (zs zf47 11 23 ++ [(Value.bool false), (eN i), (Value.bool (decide (i ≤ 8))), (z 37), (z 38), (zf54 39), (zf54 40), (zf54 41), (zf54 42), (eN j), (eN (j + 1))] ++ (zs zf54 45 9 ++ (zs z 54 33)))) (by kernel_rfl) ?_
     refine wpL.done ?_
     refine then_n ?_
     refine ⟨([(zf47 0), (zf47 1), (zf47 2), (zf47 3), (z 4), u15, u31, (zf47 7), (eN i), (eB (syn ((placesL ll 224 20).take (j + 1)) i)), (eN (j + 1))] ++ (zs zf47 11 23 ++ [(Value.bool false), (eN i), (Value.bool (decide (i ≤ 8))), (z 37), (z 38), (zf54 39), (zf54 40), (zf54 41), (zf54 42), (eN j), (eN (j + 1))] ++ (zs zf54 45 9 ++ (zs z 54 33)))), (j + 1), (congrArg (fun l_ => fr l_ _) (show (([(zf47 0), (zf47 1), (zf47 2), (zf47 3), (z 4), u15, u31, (zf47 7), (eN i), (eB ((syn ((placesL ll 224 20).take j) i) ^^^ (exI ((((placesL ll 224 20).getD j 0) * i : Nat) : Int)))), (eN (j + 1))] ++ (zs zf47 11 23 ++ [(Value.bool false), (eN i), (Value.bool (decide (i ≤ 8))), (z 37), (z 38), (zf54 39), (zf54 40), (zf54 41), (zf54 42), (eN j), (eN (j + 1))] ++ (zs zf54 45 9 ++ (zs z 54 33)))) : List Value) = ([(zf47 0), (zf47 1), (zf47 2), (zf47 3), (z 4), u15, u31, (zf47 7), (eN i), (eB (syn ((placesL ll 224 20).take (j + 1)) i)), (eN (j + 1))] ++ (zs zf47 11 23 ++ [(Value.bool false), (eN i), (Value.bool (decide (i ≤ 8))), (z 37), (z 38), (zf54 39), (zf54 40), (zf54 41), (zf54 42), (eN j), (eN (j + 1))] ++ (zs zf54 45 9 ++ (zs z 54 33)))) from reslot ([(zf47 0), (zf47 1), (zf47 2), (zf47 3), (z 4), u15, u31, (zf47 7), (eN i), (eB ((syn ((placesL ll 224 20).take j) i) ^^^ (exI ((((placesL ll 224 20).getD j 0) * i : Nat) : Int)))), (eN (j + 1))] ++ (zs zf47 11 23 ++ [(Value.bool false), (eN i), (Value.bool (decide (i ≤ 8))), (z 37), (z 38), (zf54 39), (zf54 40), (zf54 41), (zf54 42), (eN j), (eN (j + 1))] ++ (zs zf54 45 9 ++ (zs z 54 33)))) 9 (congrArg eB (syn_take _ i c1)))), rfl, ⟨?_, ?_, ?_⟩, ?_⟩
     ·
      (try dsimp only)
      all_goals (omega)
     ·
      (try dsimp only)
      all_goals (exact o50)
     ·
      (try dsimp only)
      all_goals (exact a37)
     ·
      (try dsimp only)
      all_goals (omega)
    ·
     refine wpIn_exit ?_
     refine then_x (then_x (inb_e ?_))
     refine then_n ?_
     refine wpIn_seq ?_
     have ht_ : (placesL ll 224 20).take j = (placesL ll 224 20) := List.take_of_length_le (by omega)
     by_cases e0 : (i % 2) = 0
     ·
      refine drawn_pure [0, 0, 2, 7, 15, 0, 63, 127, 255, 511, 1023, 2047, 4095, 4095, 12287, 32767, 65535, 4095, 4095, 266239, 790527, 1970175, 4067327, 4095, 4095, 16781311, 50335743, 125833215, 260050943, 536743935, 1073741823, 2147483647, 4294967295] [(0, 54), (1, 55), (2, 56), (3, 57), (4, 58), (5, 59), (6, 60), (7, 61), (8, 62), (9, 63), (10, 64), (11, 65), (12, 66), (13, 67), (14, 68), (15, 69), (16, 70), (17, 71), (18, 72), (19, 73), (20, 74), (21, 75), (22, 76), (23, 77), (24, 78), (25, 79), (26, 80), (27, 81), (28, 82), (29, 83), (30, 84), (31, 85), (32, 86)] [u31, (eN i), (eN (i - 1)), (ixp u31 (i - 1)), (eB ((synL (placesL ll 224 20)).getD (i - 1) 0)), (eB (syn ((placesL ll 224 20).take j) i)), (Value.bool false), (Value.bool false), (eN i), (eN (i % 2)), (Value.bool true), (Value.bool true), u31, (eN i), (eN (i - 1)), (ixp u31 (i - 1)), (eB ((synL (placesL ll 224 20)).getD (i - 1) 0)), u31, (eN i), (eN (i / 2)), (eN ((i / 2) - 1)), (ixp u31 ((i / 2) - 1)), (eB ((synL (placesL ll 224 20)).getD ((i / 2) - 1) 0)), u31, (eN i), (eN (i / 2)), (eN ((i / 2) - 1)), (ixp u31 ((i / 2) - 1)), (eB ((synL (placesL ll 224 20)).getD ((i / 2) - 1) 0)), (eB (gm ((synL (placesL ll 224 20)).getD ((i / 2) - 1) 0) ((synL (placesL ll 224 20)).getD ((i / 2) - 1) 0))), (Value.bool false), (Value.bool false), (Value.bool false)] ([(zf47 0), (zf47 1), (zf47 2), (zf47 3), (z 4), u15, u31, (zf47 7), (eN i), (eB (syn ((placesL ll 224 20).take j) i)), (eN j)] ++ (zs zf47 11 23 ++ [(Value.bool false), (eN i), (Value.bool (decide (i ≤ 8))), (z 37), (z 38), (eN j), u15, (eN ((placesL ll 224 20).length)), (Value.bool (decide (j < ((placesL ll 224 20).length))))] ++ (zs z 43 11 ++ [u31, (eN i), (eN (i - 1)), (ixp u31 (i - 1)), (eB ((synL (placesL ll 224 20)).getD (i - 1) 0)), (eB (syn ((placesL ll 224 20).take j) i)), (Value.bool false), (Value.bool false), (eN i), (eN (i % 2)), (Value.bool true), (Value.bool true), u31, (eN i), (eN (i - 1)), (ixp u31 (i - 1)), (eB ((synL (placesL ll 224 20)).getD (i - 1) 0)), u31, (eN i), (eN (i / 2)), (eN ((i / 2) - 1)), (ixp u31 ((i / 2) - 1)), (eB ((synL (placesL ll 224 20)).getD ((i / 2) - 1) 0)), u31, (eN i), (eN (i / 2)), (eN ((i / 2) - 1)), (ixp u31 ((i / 2) - 1)), (eB ((synL (placesL ll 224 20)).getD ((i / 2) - 1) 0)), (eB (gm ((synL (placesL ll 224 20)).getD ((i / 2) - 1) 0) ((synL (placesL ll 224 20)).getD ((i / 2) - 1) 0))), (Value.bool false), (Value.bool false), (Value.bool false)]))) s_mx (by kernel_rfl) (by kernel_rfl) rfl (by kernel_rfl) (by kernel_rfl) ?_ ?_
      ·
       intro w_ hO_
       refine AllG.cons (gi rfl (d_move rfl)) ?_
       refine AllG.cons (gi rfl (d_move rfl)) ?_
       refine AllG.cons (gi rfl (n_sub (a := i) (b := 1) rfl rfl (by omega) (by omega))) ?_
       refine AllG.cons (gi rfl (d_ix (i := (i - 1)) (xs := (synL (placesL ll 224 20))) Try.underlying22 s_ti5 rfl (f32.step0 hO_) (show _ = Value.int _ ((i - 1 : Nat) : Int) from rfl) (by have := places_le ll 224 20; have := synL_length (placesL ll 224 20); first | omega | (simp; done) | (simp; omega)))) ?_
       refine AllG.cons (gi rfl (d_ldx (i := (i - 1)) (xs := (synL (placesL ll 224 20))) (enc := eB) (v := ((synL (placesL ll 224 20)).getD (i - 1) 0)) ⟨_, Try.underlying5, rfl⟩ rfl (f32.step0 hO_) (g_at (by have := places_le ll 224 20; have := synL_length (placesL ll 224 20); first | omega | (simp; done) | (simp; omega))))) ?_
       refine AllG.cons (gi rfl (d_move rfl)) ?_
       refine AllG.cons (gi rfl (b_neq (c := ((synL (placesL ll 224 20)).getD (i - 1) 0)) (e := (syn ((placesL ll 224 20).take j) i)) rfl rfl (by rw [decide_eq_true (by rw [ht_]; exact synL_at _ (by omega) (by omega))] <;> rfl))) ?_
       refine AllG.cons (gi rfl (d_move rfl)) ?_
       refine AllG.cons (gi_on rfl rfl rfl (Nat.le_of_ble_eq_true rfl) rfl (d_move rfl)) ?_
       refine AllG.cons (gi_on rfl rfl rfl (Nat.le_of_ble_eq_true rfl) rfl (n_rem (a := i) (b := 2) rfl rfl (by decide))) ?_
       refine AllG.cons (gi_on rfl rfl rfl (Nat.le_of_ble_eq_true rfl) rfl (n_eql (a := (i % 2)) (b := 0) rfl rfl (decide_eq_true e0))) ?_
       refine AllG.cons (gi_on rfl rfl rfl (Nat.le_of_ble_eq_true rfl) rfl (d_move rfl)) ?_
       refine AllG.cons (gi_on rfl rfl rfl (Nat.le_of_ble_eq_true rfl) rfl (d_move rfl)) ?_
       refine AllG.cons (gi_on rfl rfl rfl (Nat.le_of_ble_eq_true rfl) rfl (d_move rfl)) ?_
       refine AllG.cons (gi_on rfl rfl rfl (Nat.le_of_ble_eq_true rfl) rfl (n_sub (a := i) (b := 1) rfl rfl (by omega) (by omega))) ?_
       refine AllG.cons (gi_on rfl rfl rfl (Nat.le_of_ble_eq_true rfl) rfl (d_ix (i := (i - 1)) (xs := (synL (placesL ll 224 20))) Try.underlying22 s_ti5 rfl (f32.step0 hO_) (show _ = Value.int _ ((i - 1 : Nat) : Int) from rfl) (by have := places_le ll 224 20; have := synL_length (placesL ll 224 20); first | omega | (simp; done) | (simp; omega)))) ?_
       refine AllG.cons (gi_on rfl rfl rfl (Nat.le_of_ble_eq_true rfl) rfl (d_ldx (i := (i - 1)) (xs := (synL (placesL ll 224 20))) (enc := eB) (v := ((synL (placesL ll 224 20)).getD (i - 1) 0)) ⟨_, Try.underlying5, rfl⟩ rfl (f32.step0 hO_) (g_at (by have := places_le ll 224 20; have := synL_length (placesL ll 224 20); first | omega | (simp; done) | (simp; omega))))) ?_
       refine AllG.cons (gi_on rfl rfl rfl (Nat.le_of_ble_eq_true rfl) rfl (d_move rfl)) ?_
       refine AllG.cons (gi_on rfl rfl rfl (Nat.le_of_ble_eq_true rfl) rfl (d_move rfl)) ?_
       refine AllG.cons (gi_on rfl rfl rfl (Nat.le_of_ble_eq_true rfl) rfl (n_quo (a := i) (b := 2) rfl rfl (by decide) (by omega))) ?_
       refine AllG.cons (gi_on rfl rfl rfl (Nat.le_of_ble_eq_true rfl) rfl (n_sub (a := (i / 2)) (b := 1) rfl rfl (by omega) (by omega))) ?_
       refine AllG.cons (gi_on rfl rfl rfl (Nat.le_of_ble_eq_true rfl) rfl (d_ix (i := ((i / 2) - 1)) (xs := (synL (placesL ll 224 20))) Try.underlying22 s_ti5 rfl (f32.step0 hO_) (show _ = Value.int _ (((i / 2) - 1 : Nat) : Int) from rfl) (by have := places_le ll 224 20; have := synL_length (placesL ll 224 20); first | omega | (simp; done) | (simp; omega)))) ?_
       refine AllG.cons (gi_on rfl rfl rfl (Nat.le_of_ble_eq_true rfl) rfl (d_ldx (i := ((i / 2) - 1)) (xs := (synL (placesL ll 224 20))) (enc := eB) (v := ((synL (placesL ll 224 20)).getD ((i / 2) - 1) 0)) ⟨_, Try.underlying5, rfl⟩ rfl (f32.step0 hO_) (g_at (by have := places_le ll 224 20; have := synL_length (placesL ll 224 20); first | omega | (simp; done) | (simp; omega))))) ?_
       refine AllG.cons (gi_on rfl rfl rfl (Nat.le_of_ble_eq_true rfl) rfl (d_move rfl)) ?_
       refine AllG.cons (gi_on rfl rfl rfl (Nat.le_of_ble_eq_true rfl) rfl (d_move rfl)) ?_
       refine AllG.cons (gi_on rfl rfl rfl (Nat.le_of_ble_eq_true rfl) rfl (n_quo (a := i) (b := 2) rfl rfl (by decide) (by omega))) ?_
       refine AllG.cons (gi_on rfl rfl rfl (Nat.le_of_ble_eq_true rfl) rfl (n_sub (a := (i / 2)) (b := 1) rfl rfl (by omega) (by omega))) ?_
       refine AllG.cons (gi_on rfl rfl rfl (Nat.le_of_ble_eq_true rfl) rfl (d_ix (i := ((i / 2) - 1)) (xs := (synL (placesL ll 224 20))) Try.underlying22 s_ti5 rfl (f32.step0 hO_) (show _ = Value.int _ (((i / 2) - 1 : Nat) : Int) from rfl) (by have := places_le ll 224 20; have := synL_length (placesL ll 224 20); first | omega | (simp; done) | (simp; omega)))) ?_
       refine AllG.cons (gi_on rfl rfl rfl (Nat.le_of_ble_eq_true rfl) rfl (d_ldx (i := ((i / 2) - 1)) (xs := (synL (placesL ll 224 20))) (enc := eB) (v := ((synL (placesL ll 224 20)).getD ((i / 2) - 1) 0)) ⟨_, Try.underlying5, rfl⟩ rfl (f32.step0 hO_) (g_at (by have := places_le ll 224 20; have := synL_length (placesL ll 224 20); first | omega | (simp; done) | (simp; omega))))) ?_
       refine AllG.cons (gc_on rfl rfl rfl (Nat.le_of_ble_eq_true rfl) rfl (d_call (xl := [.tmp 76, .tmp 82]) (al := [(eB ((synL (placesL ll 224 20)).getD ((i / 2) - 1) 0)), (eB ((synL (placesL ll 224 20)).getD ((i / 2) - 1) 0))]) Try.func28 (by kernel_rfl) rfl rfl rfl (ref2Mul_ok ((synL (placesL ll 224 20)).getD ((i / 2) - 1) 0) ((synL (placesL ll 224 20)).getD ((i / 2) - 1) 0) _))) ?_
       refine AllG.cons (gi_on rfl rfl rfl (Nat.le_of_ble_eq_true rfl) rfl (b_neq (c := ((synL (placesL ll 224 20)).getD (i - 1) 0)) (e := (gm ((synL (placesL ll 224 20)).getD ((i / 2) - 1) 0) ((synL (placesL ll 224 20)).getD ((i / 2) - 1) 0))) rfl rfl (by rw [decide_eq_true (synL_sq _ (by omega) (by omega) e0)] <;> rfl))) ?_
       refine AllG.cons (gi_on rfl rfl rfl (Nat.le_of_ble_eq_true rfl) rfl (d_pick (b := true) (v := (Value.bool false)) rfl rfl)) ?_
       refine AllG.cons (gi rfl (d_pick (b := false) (v := (Value.bool false)) rfl rfl)) ?_
       exact AllG.nil
      intro w55 o56
      replace h1 := h1.step0 o56
      replace h2 := h2.step0 o56
      replace f16 := f16.step0 o56
      replace f20 := f20.step0 o56
      replace f24 := f24.step0 o56
      replace f28 := f28.step0 o56
      replace f32 := f32.step0 o56
      replace f42 := f42.step0 o56
      replace f46 := f46.step0 o56
      replace a37 := a37.step0 o56
      replace oW := oW.tail0 o56
      replace o48 := o48.tail0 o56
      replace o50 := o50.tail0 o56
      refine then_n ?_
      refine cond_f rfl ?_
      refine wpIn_skip ?_
      refine inb_n (then_n ?_)
      refine plain ?_
      refine wpL.is rfl (d_move rfl) ?_
      refine wpL.is rfl (n_add (a := i) (b := 1) rfl rfl (by omega)) ?_
      refine wpL.is rfl (d_assign rfl) ?_
      refine wpL.flat ([(zf47 0), (zf47 1), (zf47 2), (zf47 3), (z 4), u15, u31, (zf47 7), (eN (i + 1)), (eB (syn ((placesL ll 224 20).take j) i)), (eN j)] ++ (zs zf47 11 23 ++ [(Value.bool false), (eN i), (Value.bool (decide (i ≤ 8))), (eN i), (eN (i + 1)), (eN j), u15, (eN ((placesL ll 224 20).length)), (Value.bool (decide (j < ((placesL ll 224 20).length))))] ++ (zs z 43 11 ++ [u31, (eN i), (eN (i - 1)), (ixp u31 (i - 1)), (eB ((synL (placesL ll 224 20)).getD (i - 1) 0)), (eB (syn ((placesL ll 224 20).take j) i)), (Value.bool false), (Value.bool false), (eN i), (eN (i % 2)), (Value.bool true), (Value.bool true), u31, (eN i), (eN (i - 1)), (ixp u31 (i - 1)), (eB ((synL (placesL ll 224 20)).getD (i - 1) 0)), u31, (eN i), (eN (i / 2)), (eN ((i / 2) - 1)), (ixp u31 ((i / 2) - 1)), (eB ((synL (placesL ll 224 20)).getD ((i / 2) - 1) 0)), u31, (eN i), (eN (i / 2)), (eN ((i / 2) - 1)), (ixp u31 ((i / 2) - 1)), (eB ((synL (placesL ll 224 20)).getD ((i / 2) - 1) 0)), (eB (gm ((synL (placesL ll 224 20)).getD ((i / 2) - 1) 0) ((synL (placesL ll 224 20)).getD ((i / 2) - 1) 0))), (Value.bool false), (Value.bool false), (Value.bool false)]))) (by kernel_rfl) ?_
      refine wpL.done ?_
      refine then_n ?_
      refine ⟨_, (i + 1), rfl, rfl, ⟨?_, ?_, ?_⟩, ?_⟩
      ·
       (try dsimp only)
       all_goals (omega)
      ·
       (try dsimp only)
       all_goals (exact o48)
      ·
       (try dsimp only)
       all_goals (exact a37)
      ·
       (try dsimp only)
       all_goals (omega)
     ·
      refine drawn_pure [0, 0, 2, 7, 15, 0, 63, 127, 255, 511, 1023, 2047, 4095, 4095, 12287, 32767, 65535, 4095, 4095, 266239, 790527, 1970175, 4067327, 4095, 4095, 16781311, 50335743, 125833215, 260050943, 536743935, 1073741823, 2147483647, 4294967295] [(0, 54), (1, 55), (2, 56), (3, 57), (4, 58), (5, 59), (6, 60), (7, 61), (8, 62), (9, 63), (10, 64), (11, 65), (12, 66), (13, 67), (14, 68), (15, 69), (16, 70), (17, 71), (18, 72), (19, 73), (20, 74), (21, 75), (22, 76), (23, 77), (24, 78), (25, 79), (26, 80), (27, 81), (28, 82), (29, 83), (30, 84), (31, 85), (32, 86)] [u31, (eN i), (eN (i - 1)), (ixp u31 (i - 1)), (eB ((synL (placesL ll 224 20)).getD (i - 1) 0)), (eB (syn ((placesL ll 224 20).take j) i)), (Value.bool false), (Value.bool false), (eN i), (eN (i % 2)), (Value.bool false), (Value.bool false), undef, undef, undef, undef, undef, undef, undef, undef, undef, undef, undef, undef, undef, undef, undef, undef, undef, undef, undef, (Value.bool false), (Value.bool false)] ([(zf47 0), (zf47 1), (zf47 2), (zf47 3), (z 4), u15, u31, (zf47 7), (eN i), (eB (syn ((placesL ll 224 20).take j) i)), (eN j)] ++ (zs zf47 11 23 ++ [(Value.bool false), (eN i), (Value.bool (decide (i ≤ 8))), (z 37), (z 38), (eN j), u15, (eN ((placesL ll 224 20).length)), (Value.bool (decide (j < ((placesL ll 224 20).length))))] ++ (zs z 43 11 ++ [u31, (eN i), (eN (i - 1)), (ixp u31 (i - 1)), (eB ((synL (placesL ll 224 20)).getD (i - 1) 0)), (eB (syn ((placesL ll 224 20).take j) i)), (Value.bool false), (Value.bool false), (eN i), (eN (i % 2)), (Value.bool false), (Value.bool false)] ++ (us 19 ++ [(Value.bool false), (Value.bool false)])))) s_mx (by kernel_rfl) (by kernel_rfl) rfl (by kernel_rfl) (by kernel_rfl) ?_ ?_
      ·
       intro w_ hO_
       refine AllG.cons (gi rfl (d_move rfl)) ?_
       refine AllG.cons (gi rfl (d_move rfl)) ?_
       refine AllG.cons (gi rfl (n_sub (a := i) (b := 1) rfl rfl (by omega) (by omega))) ?_
       refine AllG.cons (gi rfl (d_ix (i := (i - 1)) (xs := (synL (placesL ll 224 20))) Try.underlying22 s_ti5 rfl (f32.step0 hO_) (show _ = Value.int _ ((i - 1 : Nat) : Int) from rfl) (by have := places_le ll 224 20; have := synL_length (placesL ll 224 20); first | omega | (simp; done) | (simp; omega)))) ?_
       refine AllG.cons (gi rfl (d_ldx (i := (i - 1)) (xs := (synL (placesL ll 224 20))) (enc := eB) (v := ((synL (placesL ll 224 20)).getD (i - 1) 0)) ⟨_, Try.underlying5, rfl⟩ rfl (f32.step0 hO_) (g_at (by have := places_le ll 224 20; have := synL_length (placesL ll 224 20); first | omega | (simp; done) | (simp; omega))))) ?_
       refine AllG.cons (gi rfl (d_move rfl)) ?_
       refine AllG.cons (gi rfl (b_neq (c := ((synL (placesL ll 224 20)).getD (i - 1) 0)) (e := (syn ((placesL ll 224 20).take j) i)) rfl rfl (by rw [decide_eq_true (by rw [ht_]; exact synL_at _ (by omega) (by omega))] <;> rfl))) ?_
       refine AllG.cons (gi rfl (d_move rfl)) ?_
       refine AllG.cons (gi_on rfl rfl rfl (Nat.le_of_ble_eq_true rfl) rfl (d_move rfl)) ?_
       refine AllG.cons (gi_on rfl rfl rfl (Nat.le_of_ble_eq_true rfl) rfl (n_rem (a := i) (b := 2) rfl rfl (by decide))) ?_
       refine AllG.cons (gi_on rfl rfl rfl (Nat.le_of_ble_eq_true rfl) rfl (n_eql (a := (i % 2)) (b := 0) rfl rfl (decide_eq_false e0))) ?_
       refine AllG.cons (gi_on rfl rfl rfl (Nat.le_of_ble_eq_true rfl) rfl (d_move rfl)) ?_
       refine AllG.cons (gf rfl rfl rfl (Nat.le_of_ble_eq_true rfl) rfl) ?_
       refine AllG.cons (gf rfl rfl rfl (Nat.le_of_ble_eq_true rfl) rfl) ?_
       refine AllG.cons (gf rfl rfl rfl (Nat.le_of_ble_eq_true rfl) rfl) ?_
       refine AllG.cons (gf rfl rfl rfl (Nat.le_of_ble_eq_true rfl) rfl) ?_
       refine AllG.cons (gf rfl rfl rfl (Nat.le_of_ble_eq_true rfl) rfl) ?_
       refine AllG.cons (gf rfl rfl rfl (Nat.le_of_ble_eq_true rfl) rfl) ?_
       refine AllG.cons (gf rfl rfl rfl (Nat.le_of_ble_eq_true rfl) rfl) ?_
       refine AllG.cons (gf rfl rfl rfl (Nat.le_of_ble_eq_true rfl) rfl) ?_
       refine AllG.cons (gf rfl rfl rfl (Nat.le_of_ble_eq_true rfl) rfl) ?_
       refine AllG.cons (gf rfl rfl rfl (Nat.le_of_ble_eq_true rfl) rfl) ?_
       refine AllG.cons (gf rfl rfl rfl (Nat.le_of_ble_eq_true rfl) rfl) ?_
       refine AllG.cons (gf rfl rfl rfl (Nat.le_of_ble_eq_true rfl) rfl) ?_
       refine AllG.cons (gf rfl rfl rfl (Nat.le_of_ble_eq_true rfl) rfl) ?_
       refine AllG.cons (gf rfl rfl rfl (Nat.le_of_ble_eq_true rfl) rfl) ?_
       refine AllG.cons (gf rfl rfl rfl (Nat.le_of_ble_eq_true rfl) rfl) ?_
       refine AllG.cons (gf rfl rfl rfl (Nat.le_of_ble_eq_true rfl) rfl) ?_
       refine AllG.cons (gf rfl rfl rfl (Nat.le_of_ble_eq_true rfl) rfl) ?_
       refine AllG.cons (gf rfl rfl rfl (Nat.le_of_ble_eq_true rfl) rfl) ?_
       refine AllG.cons (gf rfl rfl rfl (Nat.le_of_ble_eq_true rfl) rfl) ?_
       refine AllG.cons (gi_on rfl rfl rfl (Nat.le_of_ble_eq_true rfl) rfl (d_pick (b := false) (v := (Value.bool false)) rfl rfl)) ?_
       refine AllG.cons (gi rfl (d_pick (b := false) (v := (Value.bool false)) rfl rfl)) ?_
       exact AllG.nil
      intro w57 o58
      replace h1 := h1.step0 o58
      replace h2 := h2.step0 o58
      replace f16 := f16.step0 o58
      replace f20 := f20.step0 o58
      replace f24 := f24.step0 o58
      replace f28 := f28.step0 o58
      replace f32 := f32.step0 o58
      replace f42 := f42.step0 o58
      replace f46 := f46.step0 o58
      replace a37 := a37.step0 o58
      replace oW := oW.tail0 o58
      replace o48 := o48.tail0 o58
      replace o50 := o50.tail0 o58
      refine then_n ?_
      refine cond_f rfl ?_
      refine wpIn_skip ?_
      refine inb_n (then_n ?_)
      refine plain ?_
      refine wpL.is rfl (d_move rfl) ?_
      refine wpL.is rfl (n_add (a := i) (b := 1) rfl rfl (by omega)) ?_
      refine wpL.is rfl (d_assign rfl) ?_
      refine wpL.flat ([(zf47 0), (zf47 1), (zf47 2), (zf47 3), (z 4), u15, u31, (zf47 7), (eN (i + 1)), (eB (syn ((placesL ll 224 20).take j) i)), (eN j)] ++ (zs zf47 11 23 ++ [(Value.bool false), (eN i), (Value.bool (decide (i ≤ 8))), (eN i), (eN (i + 1)), (eN j), u15, (eN ((placesL ll 224 20).length)), (Value.bool (decide (j < ((placesL ll 224 20).length))))] ++ (zs z 43 11 ++ [u31, (eN i), (eN (i - 1)), (ixp u31 (i - 1)), (eB ((synL (placesL ll 224 20)).getD (i - 1) 0)), (eB (syn ((placesL ll 224 20).take j) i)), (Value.bool false), (Value.bool false), (eN i), (eN (i % 2)), (Value.bool false), (Value.bool false)] ++ (us 19 ++ [(Value.bool false), (Value.bool false)])))) (by kernel_rfl) ?_
      refine wpL.done ?_
      refine then_n ?_
      refine ⟨_, (i + 1), rfl, rfl, ⟨?_, ?_, ?_⟩, ?_⟩
      ·
       (try dsimp only)
       all_goals (omega)
      ·
       (try dsimp only)
       all_goals (exact o48)
      ·
       (try dsimp only)
       all_goals (exact a37)
      ·
       (try dsimp only)
       all_goals (omega)
  ·
   refine wpIn_exit ?_
   refine then_x (then_x (inb_e ?_))
   refine then_n ?_
   refine wpIn_seq ?_
   refine plain ?_
   refine wpL.is rfl (d_assign rfl) ?_
   refine wpL.flat ([(zf47 0), (zf47 1), (zf47 2), (zf47 3), (Value.bool true), u15, u31, (zf47 7), (eN i), (z 9), (z 10)] ++ (zs zf47 11 23 ++ [(Value.bool false), (eN i), (Value.bool (decide (i ≤ 8)))] ++ (zs z 37 50))) (by kernel_rfl) ?_
   refine wpL.done ?_
   refine then_n ?_
   refine wpIn_ret ?_
   refine leave0 (v := (Value.bool true)) (res1 Try.results7 rfl) ?_
   exact ⟨rfl, oW⟩

end Go.Proofs.YtkppgdbpadaegaaF
