import Derived.Test.YtgalehapmdabeaaFz
import Derived.Test.YtgalehapmdabeaaTy
import Derived.Test.YtgalehapmdabeaaHpgu
set_option linter.unusedVariables false
set_option linter.unusedSimpArgs false
namespace Go.Proofs.YtgalehapmdabeaaF
open Go Go.Shelf Go.Proofs.YtgalehapmdabeaaS Ram
set_option maxRecDepth 20000 in
set_option maxHeartbeats 4000000 in
theorem pageTorn_law (la : List UInt8) (lb : List UInt8) (u1 : Value) (u2 : Value) (W : World) (h1 : Ps No (Seq kB la u1) W) (h2 : Ps No (Seq kB lb u2) W) (g1 : la.length ≤ 140737488351232) (g2 : lb.length ≤ 140737488351232) :
    CW Try.prog 9 #[u1, u2] W (Rt (RIs (.bool true) W)) := by
 have oW : Only No W W := Only.refl _ _
 refine enter (al := [u1, u2]) (k := 49) (l := ([u1, u2] ++ (us 49))) Try.func9 rfl Try.ntmps9 rfl rfl ?_
 refine wpIn_seq ?_
 refine plain ?_
 refine wI (d_assign rfl) ?_
 refine wF ([u1, u2, undef, undef, (Value.bool false)] ++ (us 46)) ?_
 refine wpL.done ?_
 refine then_n ?_
 refine wpIn_seq ?_
 refine wpIn_seq ?_
 refine plain ?_
 refine wO (d_call (xl := []) (al := []) Try.func14 (by kernel_rfl) rfl rfl rfl (l8known_ok _)) ?_
 rintro _ w11 ⟨rfl, o12⟩
 replace h1 := h1.step0 o12
 replace h2 := h2.step0 o12
 replace oW := oW.tail0 o12
 refine wI (d_not rfl rfl) ?_
 refine wF ([u1, u2, undef, undef, (Value.bool false), undef, undef, undef, undef, (Value.bool true), (Value.bool false)] ++ (us 40)) ?_
 refine wpL.done ?_
 refine then_n ?_
 refine cond_f rfl ?_
 refine wpIn_skip ?_
 refine then_n ?_
 refine wpIn_seq ?_
 refine wpIn_seq ?_
 refine plain ?_
 refine wI (d_move rfl) ?_
 refine wI (d_lenS rfl Try.underlying22 rfl h2) ?_
 refine wI (n_gtr (a := lb.length) (b := 60) rfl rfl rfl) ?_
 refine wF ([u1, u2, undef, undef, (Value.bool false), undef, undef, undef, undef, (Value.bool true), (Value.bool false), u2, (eN lb.length), (Value.bool (decide (60 < lb.length)))] ++ (us 37)) ?_
 refine wpL.done ?_
 refine then_n ?_
 refine cond_if rfl (fun c1 => ?_) (fun c1 => ?_)
 ·
  refine wpIn_seq ?_
  refine plain ?_
  refine wI (d_assign rfl) ?_
  refine wF ([u1, u2, undef, undef, (Value.bool true), undef, undef, undef, undef, (Value.bool true), (Value.bool false), u2, (eN lb.length), (Value.bool (decide (60 < lb.length)))] ++ (us 37)) ?_
  refine wpL.done ?_
  refine then_n ?_
  refine wpIn_ret ?_
  refine then_r ?_
  refine leave0 (v := (Value.bool true)) (res1 Try.results9 rfl) ?_
  exact ⟨rfl, oW⟩
 refine wpIn_skip ?_
 refine then_n ?_
 refine wpIn_seq ?_
 refine plain ?_
 refine wI (d_move rfl) ?_
 refine wO (d_call (xl := [.tmp 14, .const (.int .i64 48)]) (al := [u1, (eN 48)]) Try.func15 (by kernel_rfl) rfl rfl rfl (l4Data_ok la 48 u1 _ (Ps.no h1) (by omega))) ?_
 rintro u15 w13 f16
 replace f16 := f16.ps
 obtain ⟨f16, o14⟩ := f16
 replace f16 := f16.less (Y := (Old W.heap.size)) (old_old oW.size)
 replace h1 := h1.step0 o14
 replace h2 := h2.step0 o14
 replace oW := oW.tail0 o14
 refine wO (d_call (xl := [.tmp 15]) (al := [u15]) Try.func18 (by kernel_rfl) rfl rfl rfl (ref8Encode_ok (dataL la 48) u15 _ (Ps.no f16) (by have := dataL_length la 48; first | omega | (simp; done) | (simp; omega)))) ?_
 rintro u19 w17 f20
 replace f20 := f20.ps
 obtain ⟨f20, o18⟩ := f20
 replace f20 := f20.less (Y := (Old W.heap.size)) (old_old oW.size)
 replace h1 := h1.step0 o18
 replace h2 := h2.step0 o18
 replace f16 := f16.step0 o18
 replace oW := oW.tail0 o18
 refine wF ([u1, u2, undef, undef, (Value.bool false), undef, undef, undef, undef, (Value.bool true), (Value.bool false), u2, (eN lb.length), (Value.bool (decide (60 < lb.length))), u1, u15, u19] ++ (us 34)) ?_
 refine wI (d_assign rfl) ?_
 refine wF ([u1, u2, undef, undef, (Value.bool false), u19, undef, undef, undef, (Value.bool true), (Value.bool false), u2, (eN lb.length), (Value.bool (decide (60 < lb.length))), u1, u15, u19] ++ (us 34)) ?_
 refine wpL.done ?_
 refine then_n ?_
 refine forget (fun zf21 => ([(zf21 0), u2, (zf21 2), (zf21 3), (zf21 4), u19, (zf21 6), undef] ++ (zs zf21 8 43))) (by kernel_rfl) (fun zf21 => ?_)
 refine wpIn_seq ?_
 refine plain ?_
 refine wO (d_make1 (n := 60) Try.underlying22 s_ti5 rfl rfl (by omega) (by omega) rfl) ?_
 rintro _ w22 ⟨o, rfl, g23, a24, o25⟩
 replace a24 : Arr 5 o ((List.replicate 60 0).map eB) w22 := by rw [List.map_replicate]; exact a24
 have l_o : (List.replicate 60 0 : List UInt8).length = 60 := by simp
 have g_oW_o : W.heap.size ≤ o := Nat.le_trans oW.size g23
 replace h1 := h1.new o25 g23
 replace h2 := h2.new o25 g23
 replace f16 := f16.new o25 g23
 replace f20 := f20.new o25 g23
 replace oW := oW.tail0 o25
 refine wI (d_assign rfl) ?_
 refine wF ([(zf21 0), u2, (zf21 2), (zf21 3), (zf21 4), u19, (sli o 0 60 60), undef] ++ (zs zf21 8 9 ++ [(sli o 0 60 60)] ++ (zs zf21 18 33))) ?_
 refine wpL.done ?_
 refine then_n ?_
 refine wpIn_seq ?_
 refine wpIn_seq ?_
 refine plain ?_
 refine wI (d_assign rfl) ?_
 refine wF ([(zf21 0), u2, (zf21 2), (zf21 3), (zf21 4), u19, (sli o 0 60 60), (eN 0)] ++ (zs zf21 8 9 ++ [(sli o 0 60 60)] ++ (zs zf21 18 33))) ?_
 refine wpL.done ?_
 refine then_n ?_
 refine wpIn_block ?_
 refine loop2 (fun (i : (Nat)) => fun (z : Nat → Value) => (([(zf21 0), u2, (zf21 2), (zf21 3), (zf21 4), u19, (sli o 0 60 60), (eN i)] ++ (zs zf21 8 9 ++ [(sli o 0 60 60)] ++ (zs z 18 7 ++ (zs zf21 25 26)))) : List Value)) (fun (i : (Nat)) => fun (w_ : World) => (i ≤ 60) ∧ Only (Or1 o No) w22 w_ ∧ (ffTo 60 i).length = 60 ∧ Arr 5 o ((ffTo 60 i).map eB) w_) (fun (i : (Nat)) => 60 - i) 0 rfl ?_ ?_
 ·
  refine ⟨?_, ?_, ?_, ?_⟩
  ·
   (try dsimp only)
   all_goals (omega)
  ·
   exact Only.refl _ _
  ·
   exact ffTo_length 60 0
  ·
   (try dsimp only)
   all_goals (rw [← ffTo_zero]; exact a24)
 rintro i z w27 ⟨hi, o26, l_o, a24⟩
 (try dsimp only)
 replace h1 := h1.step o26 (or1_mono no_any)
 replace h2 := h2.step o26 (or1_mono no_any)
 replace f16 := f16.step o26 (or1_mono no_any)
 replace f20 := f20.step o26 (or1_mono no_any)
 replace oW := oW.tail o26 (tl_new g_oW_o tl_no)
 refine wpIn_seq ?_
 refine wpIn_seq ?_
 refine plain ?_
 refine wI (d_move rfl) ?_
 refine wI (n_lss (a := i) (b := 60) rfl rfl rfl) ?_
 refine wF ([(zf21 0), u2, (zf21 2), (zf21 3), (zf21 4), u19, (sli o 0 60 60), (eN i)] ++ (zs zf21 8 9 ++ [(sli o 0 60 60), (eN i), (Value.bool (decide (i < 60)))] ++ (zs z 20 5 ++ (zs zf21 25 26)))) ?_
 refine wpL.done ?_
 refine then_n ?_
 refine cond_if rfl (fun c28 => ?_) (fun c28 => ?_)
 ·
  refine wpIn_skip ?_
  refine then_n ?_
  refine wpIn_seq ?_
  refine wpIn_block ?_
  refine plain ?_
  refine wI (d_move rfl) ?_
  refine wI (d_move rfl) ?_
  refine wI (d_index1 (n := 60) (i := i) Try.underlying22 s_ti5 rfl (show _ = Value.int _ ((i : Nat) : Int) from rfl) (by omega)) ?_
  refine wF ([(zf21 0), u2, (zf21 2), (zf21 3), (zf21 4), u19, (sli o 0 60 60), (eN i)] ++ (zs zf21 8 9 ++ [(sli o 0 60 60), (eN i), (Value.bool (decide (i < 60))), (z 20), (z 21), (sli o 0 60 60), (eN i), (ptr o i)] ++ (zs zf21 25 26))) ?_
  refine wO (d_store (b := o) (i := i) (v := (eB 255)) s_ti5 rfl rfl rfl a24 (by rw [List.length_map, l_o]; omega) (m_put (ffTo 60 i) i 255 eB)) ?_
  rintro _ w29 ⟨a30, o31⟩
  replace h1 := h1.stepb o31 in1
  replace h2 := h2.stepb o31 in1
  replace f16 := f16.stepb o31 in1
  replace f20 := f20.stepb o31 in1
  replace oW := oW.tailb o31 g_oW_o
  replace o26 := o26.tail o31 (fun k _ e => by have : k = o := e; rw [this]; exact in1)
  replace l_o : ((ffTo 60 i).set i 255 : List UInt8).length = 60 := (List.length_set ..).trans l_o
  refine wF ([(zf21 0), u2, (zf21 2), (zf21 3), (zf21 4), u19, (sli o 0 60 60), (eN i)] ++ (zs zf21 8 9 ++ [(sli o 0 60 60), (eN i), (Value.bool (decide (i < 60))), (z 20), (z 21), (sli o 0 60 60), (eN i), (ptr o i)] ++ (zs zf21 25 26))) ?_
  refine wpL.done ?_
  refine inb_n (then_n ?_)
  refine plain ?_
  refine wI (d_move rfl) ?_
  refine wI (n_add (a := i) (b := 1) rfl rfl (by omega)) ?_
  refine wI (d_assign rfl) ?_
  refine wF ([(zf21 0), u2, (zf21 2), (zf21 3), (zf21 4), u19, (sli o 0 60 60), (eN (i + 1))] ++ (zs zf21 8 9 ++ [(sli o 0 60 60), (eN i), (Value.bool (decide (i < 60))), (eN i), (eN (i + 1)), (sli o 0 60 60), (eN i), (ptr o i)] ++ (zs zf21 25 26))) ?_
  refine wpL.done ?_
  refine then_n ?_
  refine ⟨_, (i + 1), rfl, rfl, ⟨?_, ?_, ?_, ?_⟩, ?_⟩
  ·
   (try dsimp only)
   all_goals (omega)
  ·
   exact o26
  ·
   exact ffTo_length _ _
  ·
   (try dsimp only)
   all_goals (rw [ffTo_step] at a30; exact a30)
  ·
   (try dsimp only)
   all_goals (omega)
 refine wpIn_exit ?_
 refine then_x (then_x (inb_e ?_))
 refine then_n ?_
 refine wpIn_seq ?_
 replace a24 : Arr 5 o ((List.replicate 60 255).map eB) w27 := by rw [← (ffTo_done (n := 60) (i := i) (by omega))]; exact a24
 replace l_o : ((List.replicate 60 255) : List UInt8).length = 60 := (by simp)
 have hm_ := mixR_len (List.replicate 60 255) (pgE (dataL la 48)) lb
 rw [List.length_replicate] at hm_
 refine plain ?_
 refine wI (d_move rfl) ?_
 refine wI (d_move rfl) ?_
 refine wI (d_move rfl) ?_
 refine wF ([(zf21 0), u2, (zf21 2), (zf21 3), (zf21 4), u19, (sli o 0 60 60), (eN i)] ++ (zs zf21 8 9 ++ [(sli o 0 60 60), (eN i), (Value.bool (decide (i < 60)))] ++ (zs z 20 5 ++ [(sli o 0 60 60), u19, u2] ++ (zs zf21 28 23)))) ?_
 refine wO (d_call (xl := [.tmp 25, .tmp 26, .tmp 27]) (al := [(sli o 0 60 60), u19, u2]) Try.func26 (by kernel_rfl) rfl rfl rfl (ref6Mix_ok (List.replicate 60 255) (pgE (dataL la 48)) lb (sli o 0 60 60) u19 u2 _ (Ps.no (arr_seq a24 l_o (Nat.le_refl _))) (Ps.no f20) (Ps.no h2) (by have := rep_len 60 255; first | omega | (simp; done) | (simp; omega)) (by have := dataL_length la 48; have := pgE_len (dataL la 48); first | omega | (simp; done) | (simp; omega)) (by first | omega | (simp; done) | (simp; omega)))) ?_
 rintro u34 w32 f35
 replace f35 := f35.ps
 obtain ⟨f35, o33⟩ := f35
 replace f35 := f35.less (Y := (Or1 o (Old W.heap.size))) (or1_old a24.lt (old_old oW.size))
 replace h1 := h1.step0 o33
 replace h2 := h2.step0 o33
 replace f16 := f16.step0 o33
 replace f20 := f20.step0 o33
 replace a24 := a24.step0 o33
 replace oW := oW.tail0 o33
 replace o26 := o26.tail0 o33
 refine wI (d_assign rfl) ?_
 refine wF ([(zf21 0), u2, (zf21 2), (zf21 3), (zf21 4), u19, (sli o 0 60 60), (eN i), u34] ++ (zs zf21 9 8 ++ [(sli o 0 60 60), (eN i), (Value.bool (decide (i < 60)))] ++ (zs z 20 5 ++ [(sli o 0 60 60), u19, u2, u34] ++ (zs zf21 29 22)))) ?_
 refine wpL.done ?_
 refine then_n ?_
 refine forget (fun zf36 => (zs zf36 0 5 ++ [u19, (sli o 0 60 60), (eN i), u34] ++ (zs zf36 9 42))) (by kernel_rfl) (fun zf36 => ?_)
 refine wpIn_seq ?_
 refine plain ?_
 refine wO (d_buildL (cs := []) Try.underlying22 s_ti5 rfl (nb rfl) parts_nil rfl) ?_
 rintro _ w38 ⟨b37, rfl, g39, a40, o41⟩
 replace a40 : Arr 5 b37 (([] : List UInt8).map eB) w38 := a40
 have l_b37 : ([] : List UInt8).length = 0 := rfl
 have n_o_b37 : o ≠ b37 := a24.ne g39
 have g_oW_b37 : W.heap.size ≤ b37 := Nat.le_trans oW.size g39
 have g_o26_b37 : w22.heap.size ≤ b37 := Nat.le_trans o26.size g39
 replace h1 := h1.new o41 g39
 replace h2 := h2.new o41 g39
 replace f16 := f16.new o41 g39
 replace f20 := f20.new o41 g39
 replace f35 := f35.new o41 g39
 replace a24 := a24.step0 o41
 replace oW := oW.tail0 o41
 replace o26 := o26.tail0 o41
 refine wI (d_move rfl) ?_
 have a42 := Ow.of_map2 a40 l_b37
 have nq_c_o := nq_b (Ne.symm n_o_b37)
 have q_oW_c : Fr (some b37) none W.heap.size := Fr.new g_oW_b37
 have q_o26_c : Fr (some b37) none w22.heap.size := Fr.new g_o26_b37
 replace h1 := h1.less (Y := (Orq (some b37) (Or1 o No))) (xx_br (xx_or1 xx_id))
 replace h2 := h2.less (Y := (Orq (some b37) (Or1 o No))) (xx_br (xx_or1 xx_id))
 replace f16 := f16.less (Y := (Orq (some b37) (Or1 o (Old W.heap.size)))) (xx_br (xx_or1 xx_id))
 replace f20 := f20.less (Y := (Orq (some b37) (Or1 o (Old W.heap.size)))) (xx_br (xx_or1 xx_id))
 replace f35 := f35.less (Y := (Orq (some b37) (Or1 o (Old W.heap.size)))) (xx_br (xx_or1 xx_id))
 refine wO (d_append Try.underlying22 Try.underlying22 s_ti5 rfl rfl rfl a42 (SrcV.of_seq f35 (fun _ => rfl)) (by simp only [List.length_nil]; omega) (by simp only [List.length_nil]; omega) rfl) ?_
 rintro u43 w44 ⟨bo45, a46, o47, q48⟩
 replace a46 : Ow 5 1 bo45 u43 (mixR (List.replicate 60 255) (pgE (dataL la 48)) lb).length ((mixR (List.replicate 60 255) (pgE (dataL la 48)) lb).map eB) w44 := by simpa using a46
 replace h1 := h1.gr o47 (fun k e => (.inl e)) (xx_re (Fr.of_or q48) (xx_or1 xx_id))
 replace h2 := h2.gr o47 (fun k e => (.inl e)) (xx_re (Fr.of_or q48) (xx_or1 xx_id))
 replace f16 := f16.gr o47 (fun k e => (.inl e)) (xx_re (Fr.of_or q48) (xx_or1 xx_id))
 replace f20 := f20.gr o47 (fun k e => (.inl e)) (xx_re (Fr.of_or q48) (xx_or1 xx_id))
 replace f35 := f35.gr o47 (fun k e => (.inl e)) (xx_re (Fr.of_or q48) (xx_or1 xx_id))
 have nq2 := nqs nq_c_o (Fr.of_or q48) a24.lt
 replace a24 := a24.step o47 (fun e => nq_c_o _ e rfl)
 replace nq_c_o := nq2
 clear nq2
 have tq := oW.size
 replace oW := oW.tailr o47 q_oW_c (fun _ e => by cases e)
 replace q_oW_c := qtr (Fr.of_or q48) q_oW_c tq
 clear tq
 have tq := o26.size
 replace o26 := o26.tailr o47 q_o26_c (fun _ e => by cases e)
 replace q_o26_c := qtr (Fr.of_or q48) q_o26_c tq
 clear tq
 refine wF (zs zf36 0 5 ++ [u19, (sli o 0 60 60), (eN i), u34] ++ (zs zf36 9 20 ++ [(sli b37 0 0 0), u34, u43] ++ (zs zf36 32 19))) ?_
 refine wO (d_call (xl := [.tmp 31]) (al := [u43]) Try.func21 (by kernel_rfl) rfl rfl rfl (pageDecode_ok (mixR (List.replicate 60 255) (pgE (dataL la 48)) lb) u43 _ (Ps.no (a46.seq (X := No) (fun _ _ h => h))) (by have := rep_len 60 255; have := dataL_length la 48; have := mixR_len (List.replicate 60 255) (pgE (dataL la 48)) lb; have := pgE_len (dataL la 48); first | omega | (simp; done) | (simp; omega)))) ?_
 rintro _ w49 ⟨u51, rfl, f52, o50⟩
 replace f52 := f52.less (Y := (Orq bo45 (Or1 o (Old W.heap.size)))) (orq_old a46.lts (or1_old a24.lt (old_old oW.size)))
 replace h1 := h1.step0 o50
 replace h2 := h2.step0 o50
 replace f16 := f16.step0 o50
 replace f20 := f20.step0 o50
 replace f35 := f35.step0 o50
 replace a24 := a24.step0 o50
 replace a46 := a46.step0 o50
 replace oW := oW.tail0 o50
 replace o26 := o26.tail0 o50
 refine wI (d_move rfl) ?_
 refine wO (d_call (xl := [.tmp 33]) (al := [u34]) Try.func22 (by kernel_rfl) rfl rfl rfl (ref8Decode_ok (mixR (List.replicate 60 255) (pgE (dataL la 48)) lb) u34 _ (Ps.no f35) (by have := rep_len 60 255; have := dataL_length la 48; have := mixR_len (List.replicate 60 255) (pgE (dataL la 48)) lb; have := pgE_len (dataL la 48); first | omega | (simp; done) | (simp; omega)))) ?_
 rintro _ w53 ⟨u55, rfl, f56, o54⟩
 replace f56 := f56.less (Y := (Orq bo45 (Or1 o (Old W.heap.size)))) (orq_old a46.lts (or1_old a24.lt (old_old oW.size)))
 replace h1 := h1.step0 o54
 replace h2 := h2.step0 o54
 replace f16 := f16.step0 o54
 replace f20 := f20.step0 o54
 replace f35 := f35.step0 o54
 replace f52 := f52.step0 o54
 replace a24 := a24.step0 o54
 replace a46 := a46.step0 o54
 replace oW := oW.tail0 o54
 replace o26 := o26.tail0 o54
 refine wF (zs zf36 0 5 ++ [u19, (sli o 0 60 60), (eN i), u34] ++ (zs zf36 9 20 ++ [(sli b37 0 0 0), u34, u43, (Value.agg #[(eN ((pgD (mixR (List.replicate 60 255) (pgE (dataL la 48)) lb)).1)), u51]), u34, (Value.agg #[(eN ((pgD (mixR (List.replicate 60 255) (pgE (dataL la 48)) lb)).1)), u55])] ++ (zs zf36 35 16))) ?_
 refine wO (d_call (xl := [.tmp 32, .tmp 34]) (al := [(Value.agg #[(eN ((pgD (mixR (List.replicate 60 255) (pgE (dataL la 48)) lb)).1)), u51]), (Value.agg #[(eN ((pgD (mixR (List.replicate 60 255) (pgE (dataL la 48)) lb)).1)), u55])]) Try.func20 (by kernel_rfl) rfl rfl rfl (l8same_ok ((pgD (mixR (List.replicate 60 255) (pgE (dataL la 48)) lb)).1) ((pgD (mixR (List.replicate 60 255) (pgE (dataL la 48)) lb)).2) u51 u55 _ (Ps.no f52) (Ps.no f56))) ?_
 rintro _ w57 ⟨rfl, o58⟩
 replace h1 := h1.step0 o58
 replace h2 := h2.step0 o58
 replace f16 := f16.step0 o58
 replace f20 := f20.step0 o58
 replace f35 := f35.step0 o58
 replace f52 := f52.step0 o58
 replace f56 := f56.step0 o58
 replace a24 := a24.step0 o58
 replace a46 := a46.step0 o58
 replace oW := oW.tail0 o58
 replace o26 := o26.tail0 o58
 refine wI (d_move rfl) ?_
 refine wpL.onis rfl rfl rfl (nb rfl) rfl (d_move rfl) ?_
 refine wF (zs zf36 0 5 ++ [u19, (sli o 0 60 60), (eN i), u34] ++ (zs zf36 9 20 ++ [(sli b37 0 0 0), u34, u43, (Value.agg #[(eN ((pgD (mixR (List.replicate 60 255) (pgE (dataL la 48)) lb)).1)), u51]), u34, (Value.agg #[(eN ((pgD (mixR (List.replicate 60 255) (pgE (dataL la 48)) lb)).1)), u55]), (Value.bool true), (Value.bool true), (sli o 0 60 60)] ++ (zs zf36 38 13))) ?_
 refine wpL.onis rfl rfl rfl (nb rfl) rfl (d_move rfl) ?_
 refine wpL.on rfl rfl rfl (nb rfl) rfl (d_buildL (cs := [(eB 255)]) Try.underlying22 s_ti5 rfl (nb rfl) (parts_cons (vs := [(eB 255)]) (cells_of (v := (eB 255)) rfl rfl) parts_nil) rfl) ?_
 rintro _ w60 ⟨b59, rfl, g61, a62, o63⟩
 replace a62 : Arr 5 b59 (([255] : List UInt8).map eB) w60 := a62
 have l_b59 : ([255] : List UInt8).length = 1 := rfl
 have n_o_b59 : o ≠ b59 := a24.ne g61
 have nq_c_b59 : ∀ x, bo45 = some x → ¬ x = b59 := fun x hx e => by have := a46.lts x hx; omega
 have g_oW_b59 : W.heap.size ≤ b59 := Nat.le_trans oW.size g61
 have g_o26_b59 : w22.heap.size ≤ b59 := Nat.le_trans o26.size g61
 replace h1 := h1.new o63 g61
 replace h2 := h2.new o63 g61
 replace f16 := f16.new o63 g61
 replace f20 := f20.new o63 g61
 replace f35 := f35.new o63 g61
 replace f52 := f52.new o63 g61
 replace f56 := f56.new o63 g61
 replace a24 := a24.step0 o63
 replace a46 := a46.step0 o63
 replace oW := oW.tail0 o63
 replace o26 := o26.tail0 o63
 refine wpL.on rfl rfl rfl (nb rfl) rfl (d_call (xl := [.tmp 37, .tmp 38, .tmp 39]) (al := [(sli o 0 60 60), u19, (sli b59 0 1 1)]) Try.func26 (by kernel_rfl) rfl rfl rfl (ref6Mix_ok (List.replicate 60 255) (pgE (dataL la 48)) ([255] : List UInt8) (sli o 0 60 60) u19 (sli b59 0 1 1) _ (Ps.no (arr_seq a24 l_o (Nat.le_refl _))) (Ps.no f20) (Ps.no (arr_seq a62 l_b59 (Nat.le_refl _))) (by have := rep_len 60 255; first | omega | (simp; done) | (simp; omega)) (by have := dataL_length la 48; have := pgE_len (dataL la 48); first | omega | (simp; done) | (simp; omega)) (by first | omega | (simp; done) | (simp; omega)))) ?_
 rintro u66 w64 f67
 replace f67 := f67.ps
 obtain ⟨f67, o65⟩ := f67
 replace f67 := f67.less (Y := (Or1 b59 (Orq bo45 (Or1 o (Old W.heap.size))))) (or1_old a62.lt (orq_old a46.lts (or1_old a24.lt (old_old oW.size))))
 replace h1 := h1.step0 o65
 replace h2 := h2.step0 o65
 replace f16 := f16.step0 o65
 replace f20 := f20.step0 o65
 replace f35 := f35.step0 o65
 replace f52 := f52.step0 o65
 replace f56 := f56.step0 o65
 replace a24 := a24.step0 o65
 replace a62 := a62.step0 o65
 replace a46 := a46.step0 o65
 replace oW := oW.tail0 o65
 replace o26 := o26.tail0 o65
 refine wF (zs zf36 0 5 ++ [u19, (sli o 0 60 60), (eN i), u34] ++ (zs zf36 9 20 ++ [(sli b37 0 0 0), u34, u43, (Value.agg #[(eN ((pgD (mixR (List.replicate 60 255) (pgE (dataL la 48)) lb)).1)), u51]), u34, (Value.agg #[(eN ((pgD (mixR (List.replicate 60 255) (pgE (dataL la 48)) lb)).1)), u55]), (Value.bool true), (Value.bool true), (sli o 0 60 60), u19, (sli b59 0 1 1), u66] ++ (zs zf36 41 10))) ?_
 refine wpL.on rfl rfl rfl (nb rfl) rfl (d_call (xl := [.tmp 40]) (al := [u66]) Try.func21 (by kernel_rfl) rfl rfl rfl (pageDecode_ok (mixR (List.replicate 60 255) (pgE (dataL la 48)) ([255] : List UInt8)) u66 _ (Ps.no f67) (by have := rep_len 60 255; have := dataL_length la 48; have := mixR_len (List.replicate 60 255) (pgE (dataL la 48)) ([255] : List UInt8); have := pgE_len (dataL la 48); first | omega | (simp; done) | (simp; omega)))) ?_
 rintro _ w68 ⟨u70, rfl, f71, o69⟩
 replace f71 := f71.less (Y := (Or1 b59 (Orq bo45 (Or1 o (Old W.heap.size))))) (or1_old a62.lt (orq_old a46.lts (or1_old a24.lt (old_old oW.size))))
 replace h1 := h1.step0 o69
 replace h2 := h2.step0 o69
 replace f16 := f16.step0 o69
 replace f20 := f20.step0 o69
 replace f35 := f35.step0 o69
 replace f52 := f52.step0 o69
 replace f56 := f56.step0 o69
 replace f67 := f67.step0 o69
 replace a24 := a24.step0 o69
 replace a62 := a62.step0 o69
 replace a46 := a46.step0 o69
 replace oW := oW.tail0 o69
 replace o26 := o26.tail0 o69
 refine wpL.onis rfl rfl rfl (nb rfl) rfl (d_field (v := (eN ((pgD (mixR (List.replicate 60 255) (pgE (dataL la 48)) ([255] : List UInt8))).1))) Try.underlying32 rfl ⟨_, Try.underlying3, rfl⟩ rfl rfl) ?_
 refine wpL.onis rfl rfl rfl (nb rfl) rfl (n_eql (a := ((pgD (mixR (List.replicate 60 255) (pgE (dataL la 48)) ([255] : List UInt8))).1)) (b := 2) rfl rfl (decide_eq_true (by rw [pg_torn (dataL_length la 48), page_plain (dataL_length la 48)]))) ?_
 refine wF (zs zf36 0 5 ++ [u19, (sli o 0 60 60), (eN i), u34] ++ (zs zf36 9 20 ++ [(sli b37 0 0 0), u34, u43, (Value.agg #[(eN ((pgD (mixR (List.replicate 60 255) (pgE (dataL la 48)) lb)).1)), u51]), u34, (Value.agg #[(eN ((pgD (mixR (List.replicate 60 255) (pgE (dataL la 48)) lb)).1)), u55]), (Value.bool true), (Value.bool true), (sli o 0 60 60), u19, (sli b59 0 1 1), u66, (Value.agg #[(eN ((pgD (mixR (List.replicate 60 255) (pgE (dataL la 48)) ([255] : List UInt8))).1)), u70]), (eN ((pgD (mixR (List.replicate 60 255) (pgE (dataL la 48)) ([255] : List UInt8))).1)), (Value.bool true)] ++ (zs zf36 44 7))) ?_
 refine wI (d_pick (b := true) (v := (Value.bool true)) rfl rfl) ?_
 refine wI (d_move rfl) ?_
 refine wpL.onis rfl rfl rfl (nb rfl) rfl (d_move rfl) ?_
 refine wF (zs zf36 0 5 ++ [u19, (sli o 0 60 60), (eN i), u34] ++ (zs zf36 9 20 ++ [(sli b37 0 0 0), u34, u43, (Value.agg #[(eN ((pgD (mixR (List.replicate 60 255) (pgE (dataL la 48)) lb)).1)), u51]), u34, (Value.agg #[(eN ((pgD (mixR (List.replicate 60 255) (pgE (dataL la 48)) lb)).1)), u55]), (Value.bool true), (Value.bool true), (sli o 0 60 60), u19, (sli b59 0 1 1), u66, (Value.agg #[(eN ((pgD (mixR (List.replicate 60 255) (pgE (dataL la 48)) ([255] : List UInt8))).1)), u70]), (eN ((pgD (mixR (List.replicate 60 255) (pgE (dataL la 48)) ([255] : List UInt8))).1)), (Value.bool true), (Value.bool true), (Value.bool true), (sli o 0 60 60), (zf36 47), (zf36 48), (zf36 49), (zf36 50)])) ?_
 refine wpL.on rfl rfl rfl (nb rfl) rfl (d_call (xl := [.tmp 46]) (al := [(sli o 0 60 60)]) Try.func21 (by kernel_rfl) rfl rfl rfl (pageDecode_ok (List.replicate 60 255) (sli o 0 60 60) _ (Ps.no (arr_seq a24 l_o (Nat.le_refl _))) (by have := rep_len 60 255; first | omega | (simp; done) | (simp; omega)))) ?_
 rintro _ w72 ⟨u74, rfl, f75, o73⟩
 replace f75 := f75.less (Y := (Or1 b59 (Orq bo45 (Or1 o (Old W.heap.size))))) (or1_old a62.lt (orq_old a46.lts (or1_old a24.lt (old_old oW.size))))
 replace h1 := h1.step0 o73
 replace h2 := h2.step0 o73
 replace f16 := f16.step0 o73
 replace f20 := f20.step0 o73
 replace f35 := f35.step0 o73
 replace f52 := f52.step0 o73
 replace f56 := f56.step0 o73
 replace f67 := f67.step0 o73
 replace f71 := f71.step0 o73
 replace a24 := a24.step0 o73
 replace a62 := a62.step0 o73
 replace a46 := a46.step0 o73
 replace oW := oW.tail0 o73
 replace o26 := o26.tail0 o73
 refine wpL.onis rfl rfl rfl (nb rfl) rfl (d_field (v := (eN ((pgD (List.replicate 60 255)).1))) Try.underlying32 rfl ⟨_, Try.underlying3, rfl⟩ rfl rfl) ?_
 refine wpL.onis rfl rfl rfl (nb rfl) rfl (n_eql (a := ((pgD (List.replicate 60 255)).1)) (b := 0) rfl rfl (decide_eq_true (by rw [page_ones]))) ?_
 refine wF (zs zf36 0 5 ++ [u19, (sli o 0 60 60), (eN i), u34] ++ (zs zf36 9 20 ++ [(sli b37 0 0 0), u34, u43, (Value.agg #[(eN ((pgD (mixR (List.replicate 60 255) (pgE (dataL la 48)) lb)).1)), u51]), u34, (Value.agg #[(eN ((pgD (mixR (List.replicate 60 255) (pgE (dataL la 48)) lb)).1)), u55]), (Value.bool true), (Value.bool true), (sli o 0 60 60), u19, (sli b59 0 1 1), u66, (Value.agg #[(eN ((pgD (mixR (List.replicate 60 255) (pgE (dataL la 48)) ([255] : List UInt8))).1)), u70]), (eN ((pgD (mixR (List.replicate 60 255) (pgE (dataL la 48)) ([255] : List UInt8))).1)), (Value.bool true), (Value.bool true), (Value.bool true), (sli o 0 60 60), (Value.agg #[(eN ((pgD (List.replicate 60 255)).1)), u74]), (eN ((pgD (List.replicate 60 255)).1)), (Value.bool true), (zf36 50)])) ?_
 refine wI (d_pick (b := true) (v := (Value.bool true)) rfl rfl) ?_
 refine wI (d_assign rfl) ?_
 refine wF ([(zf36 0), (zf36 1), (zf36 2), (zf36 3), (Value.bool true), u19, (sli o 0 60 60), (eN i), u34] ++ (zs zf36 9 20 ++ [(sli b37 0 0 0), u34, u43, (Value.agg #[(eN ((pgD (mixR (List.replicate 60 255) (pgE (dataL la 48)) lb)).1)), u51]), u34, (Value.agg #[(eN ((pgD (mixR (List.replicate 60 255) (pgE (dataL la 48)) lb)).1)), u55]), (Value.bool true), (Value.bool true), (sli o 0 60 60), u19, (sli b59 0 1 1), u66, (Value.agg #[(eN ((pgD (mixR (List.replicate 60 255) (pgE (dataL la 48)) ([255] : List UInt8))).1)), u70]), (eN ((pgD (mixR (List.replicate 60 255) (pgE (dataL la 48)) ([255] : List UInt8))).1)), (Value.bool true), (Value.bool true), (Value.bool true), (sli o 0 60 60), (Value.agg #[(eN ((pgD (List.replicate 60 255)).1)), u74]), (eN ((pgD (List.replicate 60 255)).1)), (Value.bool true), (Value.bool true)])) ?_
 refine wpL.done ?_
 refine then_n ?_
 refine forget (fun zf76 => ([(zf76 0), (zf76 1), (zf76 2), (zf76 3), (Value.bool true), (zf76 5), (zf76 6), (eN i)] ++ (zs zf76 8 43))) (by kernel_rfl) (fun zf76 => ?_)
 refine wpIn_ret ?_
 refine leave0 (v := (Value.bool true)) (res1 Try.results9 rfl) ?_
 exact ⟨rfl, oW⟩

end Go.Proofs.YtgalehapmdabeaaF
