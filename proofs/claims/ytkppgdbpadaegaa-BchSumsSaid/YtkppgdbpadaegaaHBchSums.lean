import Derived.Test.YtkppgdbpadaegaaFl
import Derived.Test.YtkppgdbpadaegaaTy
import Derived.Test.YtkppgdbpadaegaaHutil
import Derived.Test.YtkppgdbpadaegaaMj
set_option linter.unusedVariables false
set_option linter.unusedSimpArgs false
namespace Go.Proofs.YtkppgdbpadaegaaF
open Go Go.Shelf Go.Proofs.YtkppgdbpadaegaaS Ram
set_option maxRecDepth 20000 in
set_option maxHeartbeats 1000000 in
theorem bchSums_law (la lb : List UInt8) (u1 u2 : Value) (W : World) (h1 : Ps No (Seq kB la u1) W) (h2 : Ps No (Seq kB lb u2) W) (g1 : la.length ≤ 140737488351232) (g2 : lb.length ≤ 140737488351232) :
    CW Try.prog 3 #[u1, u2] W (Rt (RIs (.bool true) W)) := by
 have oW : Only No W W := Only.refl _ _
 refine enter (al := [u1, u2]) (k := 89) (l := ([u1, u2] ++ (us 89))) Try.func3 rfl Try.ntmps3 rfl rfl ?_
 refine wpIn_seq ?_
 refine plain ?_
 refine wpL.is rfl (d_assign rfl) ?_
 refine wpL.flat ([u1, u2, undef, undef, (Value.bool false)] ++ (us 86)) (by kernel_rfl) ?_
 refine wpL.done ?_
 refine then_n ?_
 refine wpIn_seq ?_
 refine wpIn_seq ?_
 refine plain ?_
 refine wpL.op rfl (d_call (xl := []) (al := []) Try.func13 (by kernel_rfl) rfl rfl rfl (l4known_ok _)) ?_
 rintro _ w11 ⟨rfl, o12⟩
 replace h1 := h1.step0 o12
 replace h2 := h2.step0 o12
 replace oW := oW.tail0 o12
 refine wpL.is rfl (d_not rfl rfl) ?_
 refine wpL.flat ([u1, u2, undef, undef, (Value.bool false)] ++ (us 9 ++ [(Value.bool true), (Value.bool false)] ++ (us 75))) (by kernel_rfl) ?_
 refine wpL.done ?_
 refine then_n ?_
 refine cond_f rfl ?_
 refine wpIn_skip ?_
 refine then_n ?_
 refine wpIn_seq ?_
 refine plain ?_
 refine wpL.is rfl (d_move rfl) ?_
 refine wpL.op rfl (d_call (xl := [.tmp 16, .const (.int .i64 24)]) (al := [u1, (eN 24)]) Try.func14 (by kernel_rfl) rfl rfl rfl (l4Data_ok la 24 u1 _ (Ps.no h1) (by omega))) ?_
 rintro u15 w13 f16
 replace f16 := f16.ps
 obtain ⟨f16, o14⟩ := f16
 replace f16 := f16.less (Y := (Old W.heap.size)) (old_old oW.size)
 replace h1 := h1.step0 o14
 replace h2 := h2.step0 o14
 replace oW := oW.tail0 o14
 refine wpL.is rfl (d_move rfl) ?_
 refine wpL.flat ([u1, u2, undef, undef, (Value.bool false)] ++ (us 9 ++ [(Value.bool true), (Value.bool false), u1, u15, u2] ++ (us 72))) (by kernel_rfl) ?_
 refine wpL.op rfl (d_call (xl := [.tmp 18, .const (.int .i64 24)]) (al := [u2, (eN 24)]) Try.func14 (by kernel_rfl) rfl rfl rfl (l4Data_ok lb 24 u2 _ (Ps.no h2) (by omega))) ?_
 rintro u19 w17 f20
 replace f20 := f20.ps
 obtain ⟨f20, o18⟩ := f20
 replace f20 := f20.less (Y := (Old W.heap.size)) (old_old oW.size)
 replace h1 := h1.step0 o18
 replace h2 := h2.step0 o18
 replace f16 := f16.step0 o18
 replace oW := oW.tail0 o18
 refine wpL.is rfl (d_assign rfl) ?_
 refine wpL.is rfl (d_assign rfl) ?_
 refine wpL.flat ([u1, u2, undef, undef, (Value.bool false), u15, u19] ++ (us 7 ++ [(Value.bool true), (Value.bool false), u1, u15, u2, u19] ++ (us 71))) (by kernel_rfl) ?_
 refine wpL.done ?_
 refine then_n ?_
 refine forget (fun zf21 => (zs zf21 0 5 ++ [u15, u19, (zf21 7), undef, (zf21 9), (zf21 10), (zf21 11), undef] ++ (zs zf21 13 12 ++ (us 12 ++ (zs zf21 37 23 ++ (us 13 ++ (zs zf21 73 18))))))) (by kernel_rfl) (fun zf21 => ?_)
 refine wpIn_seq ?_
 refine plain ?_
 refine wpL.op rfl (d_make1 (n := 24) Try.underlying22 s_ti5 rfl rfl (by omega) (by omega) rfl) ?_
 rintro _ w22 ⟨zb, rfl, g23, a24, o25⟩
 replace a24 : Arr 5 zb ((List.replicate 24 0).map eB) w22 := by rw [List.map_replicate]; exact a24
 have l_zb : (List.replicate 24 0 : List UInt8).length = 24 := by simp
 have g_oW_zb : W.heap.size ≤ zb := Nat.le_trans oW.size g23
 replace h1 := h1.new o25 g23
 replace h2 := h2.new o25 g23
 replace f16 := f16.new o25 g23
 replace f20 := f20.new o25 g23
 replace oW := oW.tail0 o25
 refine wpL.is rfl (d_assign rfl) ?_
 refine wpL.flat (zs zf21 0 5 ++ [u15, u19, (sli zb 0 24 24), undef, (zf21 9), (zf21 10), (zf21 11), undef] ++ (zs zf21 13 7 ++ [(sli zb 0 24 24), (zf21 21), (zf21 22), (zf21 23), (zf21 24)] ++ (us 12 ++ (zs zf21 37 23 ++ (us 13 ++ (zs zf21 73 18)))))) (by kernel_rfl) ?_
 refine wpL.done ?_
 refine then_n ?_
 refine wpIn_seq ?_
 refine wpIn_seq ?_
 refine plain ?_
 refine wpL.is rfl (d_assign rfl) ?_
 refine wpL.flat (zs zf21 0 5 ++ [u15, u19, (sli zb 0 24 24), (eN 0), (zf21 9), (zf21 10), (zf21 11), undef] ++ (zs zf21 13 7 ++ [(sli zb 0 24 24), (zf21 21), (zf21 22), (zf21 23), (zf21 24)] ++ (us 12 ++ (zs zf21 37 23 ++ (us 13 ++ (zs zf21 73 18)))))) (by kernel_rfl) ?_
 refine wpL.done ?_
 have hd1_ := dataL_length la 24
 have hd2_ := dataL_length lb 24
 refine then_n ?_
 refine wpIn_block ?_
 refine loop2 (fun (i : (Nat)) => fun (z : Nat → Value) => ((zs zf21 0 5 ++ [u15, u19, (sli zb 0 24 24), (eN i), (zf21 9), (zf21 10), (zf21 11), undef] ++ (zs zf21 13 7 ++ [(sli zb 0 24 24)] ++ (zs z 21 16 ++ (zs zf21 37 23 ++ (us 13 ++ (zs zf21 73 18)))))) : List Value)) (fun (i : (Nat)) => fun (w_ : World) => (i ≤ 24) ∧ Only (Or1 zb No) w22 w_ ∧ (xorTo (dataL la 24) (dataL lb 24) i).length = 24 ∧ Arr 5 zb ((xorTo (dataL la 24) (dataL lb 24) i).map eB) w_) (fun (i : (Nat)) => 24 - i) 0 rfl ?_ ?_
 ·
  refine ⟨?_, ?_, ?_, ?_⟩
  ·
   (try dsimp only)
   all_goals (omega)
  ·
   (try dsimp only)
   all_goals (exact Only.refl _ _)
  ·
   (try dsimp only)
   all_goals (exact xorTo_length _ _ 0)
  ·
   (try dsimp only)
   all_goals (rw [← xorTo_zero (dataL la 24) (dataL lb 24)]; exact a24)
 ·
  rintro i z w27 ⟨hi, o26, l_zb, a24⟩
  (try dsimp only)
  replace h1 := h1.step o26 (or1_mono no_any)
  replace h2 := h2.step o26 (or1_mono no_any)
  replace f16 := f16.step o26 (or1_mono no_any)
  replace f20 := f20.step o26 (or1_mono no_any)
  replace oW := oW.tail o26 (tl_new g_oW_zb tl_no)
  refine wpIn_seq ?_
  refine wpIn_seq ?_
  refine plain ?_
  refine wpL.is rfl (d_move rfl) ?_
  refine wpL.is rfl (n_lss (a := i) (b := 24) rfl rfl rfl) ?_
  refine wpL.flat (zs zf21 0 5 ++ [u15, u19, (sli zb 0 24 24), (eN i), (zf21 9), (zf21 10), (zf21 11), undef] ++ (zs zf21 13 7 ++ [(sli zb 0 24 24), (eN i), (Value.bool (decide (i < 24)))] ++ (zs z 23 14 ++ (zs zf21 37 23 ++ (us 13 ++ (zs zf21 73 18)))))) (by kernel_rfl) ?_
  refine wpL.done ?_
  refine then_n ?_
  refine cond_if rfl (fun c0 => ?_) (fun c0 => ?_)
  ·
   refine wpIn_skip ?_
   refine then_n ?_
   refine wpIn_seq ?_
   refine wpIn_block ?_
   refine drawn_last (O := (Is1 zb)) (m := 12) (R := fun w_ => Arr 5 zb (((xorTo (dataL la 24) (dataL lb 24) i).set i (((dataL la 24).getD i 0) ^^^ ((dataL lb 24).getD i 0))).map eB) w_) [0, 0, 0, 0, 12, 28, 0, 0, 192, 448, 1020, 2047, 4095] [(0, 25), (1, 26), (2, 27), (3, 28), (4, 29), (5, 30), (6, 31), (7, 32), (8, 33), (9, 34), (10, 35), (11, 36)] [(sli zb 0 24 24), (eN i), u15, (eN i), (ixp u15 i), (eB ((dataL la 24).getD i 0)), u19, (eN i), (ixp u19 i), (eB ((dataL lb 24).getD i 0)), (eB (((dataL la 24).getD i 0) ^^^ ((dataL lb 24).getD i 0))), (ptr zb i)] (zs zf21 0 5 ++ [u15, u19, (sli zb 0 24 24), (eN i), (zf21 9), (zf21 10), (zf21 11), undef] ++ (zs zf21 13 7 ++ [(sli zb 0 24 24), (eN i), (Value.bool (decide (i < 24))), (z 23), (z 24), (sli zb 0 24 24), (eN i), u15, (eN i), (ixp u15 i), (eB ((dataL la 24).getD i 0)), u19, (eN i), (ixp u19 i), (eB ((dataL lb 24).getD i 0)), (eB (((dataL la 24).getD i 0) ^^^ ((dataL lb 24).getD i 0))), (ptr zb i)] ++ (zs zf21 37 23 ++ (us 13 ++ (zs zf21 73 18))))) s_mx (by kernel_rfl) (by kernel_rfl) rfl rfl (by decide) (by kernel_rfl) (by kernel_rfl) ?_ (fun _ _ h_ ho_ => h_.step0 ho_) ⟨_, rfl, rfl, fun w_ hO_ => gd rfl ((d_store (b := zb) (i := i) (v := (eB (((dataL la 24).getD i 0) ^^^ ((dataL lb 24).getD i 0)))) s_ti5 rfl rfl rfl (a24.step0 hO_) (by rw [List.length_map, l_zb]; omega) (m_put (xorTo (dataL la 24) (dataL lb 24) i) i (((dataL la 24).getD i 0) ^^^ ((dataL lb 24).getD i 0)) eB)).mono fun u_ w2_ h_ => ⟨h_.2, h_.1⟩)⟩ ?_
   ·
    intro w_ hO_
    refine AllG.cons (gi rfl (d_move rfl)) ?_
    refine AllG.cons (gi rfl (d_move rfl)) ?_
    refine AllG.cons (gi rfl (d_move rfl)) ?_
    refine AllG.cons (gi rfl (d_move rfl)) ?_
    refine AllG.cons (gi rfl (d_ix (i := i) (xs := (dataL la 24)) Try.underlying22 s_ti5 rfl (f16.step0 hO_) (show _ = Value.int _ ((i : Nat) : Int) from rfl) (by have := dataL_length la 24; first | omega | (simp; done) | (simp; omega)))) ?_
    refine AllG.cons (gi rfl (d_ldx (i := i) (xs := (dataL la 24)) (enc := eB) (v := ((dataL la 24).getD i 0)) ⟨_, Try.underlying5, rfl⟩ rfl (f16.step0 hO_) (g_at (by have := dataL_length la 24; first | omega | (simp; done) | (simp; omega))))) ?_
    refine AllG.cons (gi rfl (d_move rfl)) ?_
    refine AllG.cons (gi rfl (d_move rfl)) ?_
    refine AllG.cons (gi rfl (d_ix (i := i) (xs := (dataL lb 24)) Try.underlying22 s_ti5 rfl (f20.step0 hO_) (show _ = Value.int _ ((i : Nat) : Int) from rfl) (by have := dataL_length lb 24; first | omega | (simp; done) | (simp; omega)))) ?_
    refine AllG.cons (gi rfl (d_ldx (i := i) (xs := (dataL lb 24)) (enc := eB) (v := ((dataL lb 24).getD i 0)) ⟨_, Try.underlying5, rfl⟩ rfl (f20.step0 hO_) (g_at (by have := dataL_length lb 24; first | omega | (simp; done) | (simp; omega))))) ?_
    refine AllG.cons (gi rfl (b_xor (c := ((dataL la 24).getD i 0)) (e := ((dataL lb 24).getD i 0)) rfl rfl)) ?_
    refine AllG.cons (gi rfl (d_index1 (n := 24) (i := i) Try.underlying22 s_ti5 rfl (show _ = Value.int _ ((i : Nat) : Int) from rfl) (by omega))) ?_
    exact AllG.nil
   intro w28 o29 a30
   replace h1 := h1.stepb o29 in1
   replace h2 := h2.stepb o29 in1
   replace f16 := f16.stepb o29 in1
   replace f20 := f20.stepb o29 in1
   replace oW := oW.tailb o29 g_oW_zb
   replace o26 := o26.tail o29 (fun k _ e => by have : k = zb := e; rw [this]; exact in1)
   replace l_zb : ((xorTo (dataL la 24) (dataL lb 24) i).set i (((dataL la 24).getD i 0) ^^^ ((dataL lb 24).getD i 0)) : List UInt8).length = 24 := (List.length_set ..).trans l_zb
   refine inb_n (then_n ?_)
   refine plain ?_
   refine wpL.is rfl (d_move rfl) ?_
   refine wpL.is rfl (n_add (a := i) (b := 1) rfl rfl (by omega)) ?_
   refine wpL.is rfl (d_assign rfl) ?_
   refine wpL.flat (zs zf21 0 5 ++ [u15, u19, (sli zb 0 24 24), (eN (i + 1)), (zf21 9), (zf21 10), (zf21 11), undef] ++ (zs zf21 13 7 ++ [(sli zb 0 24 24), (eN i), (Value.bool (decide (i < 24))), (eN i), (eN (i + 1)), (sli zb 0 24 24), (eN i), u15, (eN i), (ixp u15 i), (eB ((dataL la 24).getD i 0)), u19, (eN i), (ixp u19 i), (eB ((dataL lb 24).getD i 0)), (eB (((dataL la 24).getD i 0) ^^^ ((dataL lb 24).getD i 0))), (ptr zb i)] ++ (zs zf21 37 23 ++ (us 13 ++ (zs zf21 73 18))))) (by kernel_rfl) ?_
   refine wpL.done ?_
   refine then_n ?_
   refine ⟨_, (i + 1), rfl, rfl, ⟨?_, ?_, ?_, ?_⟩, ?_⟩
   ·
    (try dsimp only)
    all_goals (omega)
   ·
    (try dsimp only)
    all_goals (exact o26)
   ·
    (try dsimp only)
    all_goals (exact xorTo_length _ _ _)
   ·
    (try dsimp only)
    all_goals (rw [xorTo_step] at a30; exact a30)
   ·
    (try dsimp only)
    all_goals (omega)
  ·
   refine wpIn_exit ?_
   refine then_x (then_x (inb_e ?_))
   refine then_n ?_
   refine wpIn_seq ?_
   have hd1_ := dataL_length la 24
   have hd2_ := dataL_length lb 24
   refine plain ?_
   refine wpL.is rfl (d_move rfl) ?_
   refine wpL.op rfl (d_call (xl := [.tmp 37]) (al := [u15]) Try.func15 (by kernel_rfl) rfl rfl rfl (bchEncode_ok (dataL la 24) u15 _ (Ps.no f16) (by have := dataL_length la 24; first | omega | (simp; done) | (simp; omega)))) ?_
   rintro u33 w31 f34
   replace f34 := f34.ps
   obtain ⟨f34, o32⟩ := f34
   replace f34 := f34.less (Y := (Or1 zb (Old W.heap.size))) (or1_old a24.lt (old_old oW.size))
   replace h1 := h1.step0 o32
   replace h2 := h2.step0 o32
   replace f16 := f16.step0 o32
   replace f20 := f20.step0 o32
   replace a24 := a24.step0 o32
   replace oW := oW.tail0 o32
   replace o26 := o26.tail0 o32
   refine wpL.is rfl (d_move rfl) ?_
   refine wpL.flat (zs zf21 0 5 ++ [u15, u19, (sli zb 0 24 24), (eN i), (zf21 9), (zf21 10), (zf21 11), undef] ++ (zs zf21 13 7 ++ [(sli zb 0 24 24), (eN i), (Value.bool (decide (i < 24)))] ++ (zs z 23 14 ++ [u15, u33, u19] ++ (zs zf21 40 20 ++ (us 13 ++ (zs zf21 73 18)))))) (by kernel_rfl) ?_
   refine wpL.op rfl (d_call (xl := [.tmp 39]) (al := [u19]) Try.func15 (by kernel_rfl) rfl rfl rfl (bchEncode_ok (dataL lb 24) u19 _ (Ps.no f20) (by have := dataL_length lb 24; first | omega | (simp; done) | (simp; omega)))) ?_
   rintro u37 w35 f38
   replace f38 := f38.ps
   obtain ⟨f38, o36⟩ := f38
   replace f38 := f38.less (Y := (Or1 zb (Old W.heap.size))) (or1_old a24.lt (old_old oW.size))
   replace h1 := h1.step0 o36
   replace h2 := h2.step0 o36
   replace f16 := f16.step0 o36
   replace f20 := f20.step0 o36
   replace f34 := f34.step0 o36
   replace a24 := a24.step0 o36
   replace oW := oW.tail0 o36
   replace o26 := o26.tail0 o36
   refine wpL.is rfl (d_move rfl) ?_
   refine wpL.op rfl (d_call (xl := [.tmp 41]) (al := [(sli zb 0 24 24)]) Try.func15 (by kernel_rfl) rfl rfl rfl (bchEncode_ok (xorTo (dataL la 24) (dataL lb 24) i) (sli zb 0 24 24) _ (Ps.no (arr_seq a24 l_zb (Nat.le_refl _))) (by have := dataL_length la 24; have := dataL_length lb 24; have := xorTo_length (dataL la 24) (dataL lb 24) i; first | omega | (simp; done) | (simp; omega)))) ?_
   rintro u41 w39 f42
   replace f42 := f42.ps
   obtain ⟨f42, o40⟩ := f42
   replace f42 := f42.less (Y := (Or1 zb (Old W.heap.size))) (or1_old a24.lt (old_old oW.size))
   replace h1 := h1.step0 o40
   replace h2 := h2.step0 o40
   replace f16 := f16.step0 o40
   replace f20 := f20.step0 o40
   replace f34 := f34.step0 o40
   replace f38 := f38.step0 o40
   replace a24 := a24.step0 o40
   replace oW := oW.tail0 o40
   replace o26 := o26.tail0 o40
   refine wpL.flat (zs zf21 0 5 ++ [u15, u19, (sli zb 0 24 24), (eN i), (zf21 9), (zf21 10), (zf21 11), undef] ++ (zs zf21 13 7 ++ [(sli zb 0 24 24), (eN i), (Value.bool (decide (i < 24)))] ++ (zs z 23 14 ++ [u15, u33, u19, u37, (sli zb 0 24 24), u41] ++ (zs zf21 43 17 ++ (us 13 ++ (zs zf21 73 18)))))) (by kernel_rfl) ?_
   refine wpL.is rfl (d_assign rfl) ?_
   refine wpL.is rfl (d_assign rfl) ?_
   refine wpL.is rfl (d_assign rfl) ?_
   refine wpL.flat (zs zf21 0 5 ++ [u15, u19, (sli zb 0 24 24), (eN i), u33, u37, u41, undef] ++ (zs zf21 13 7 ++ [(sli zb 0 24 24), (eN i), (Value.bool (decide (i < 24)))] ++ (zs z 23 14 ++ [u15, u33, u19, u37, (sli zb 0 24 24), u41] ++ (zs zf21 43 17 ++ (us 13 ++ (zs zf21 73 18)))))) (by kernel_rfl) ?_
   refine wpL.done ?_
   refine then_n ?_
   refine forget (fun zf43 => (zs zf43 0 5 ++ [u15, u19, (zf43 7), (eN i), u33, u37, u41, undef] ++ (zs zf43 13 47 ++ (us 13 ++ (zs zf43 73 18))))) (by kernel_rfl) (fun zf43 => ?_)
   refine wpIn_seq ?_
   refine wpIn_seq ?_
   refine plain ?_
   refine wpL.is rfl (d_move rfl) ?_
   refine wpL.is rfl (d_lenS rfl Try.underlying22 rfl f34) ?_
   refine wpL.is rfl (n_neq (a := ((encR (dataL la 24)).length)) (b := 28) rfl rfl (by rw [decide_eq_true (encR_length hd1_)] <;> rfl)) ?_
   refine wpL.flat (zs zf43 0 5 ++ [u15, u19, (zf43 7), (eN i), u33, u37, u41, undef] ++ (zs zf43 13 30 ++ [u33, (eN ((encR (dataL la 24)).length)), (Value.bool false)] ++ (zs zf43 46 14 ++ (us 13 ++ (zs zf43 73 18))))) (by kernel_rfl) ?_
   refine wpL.is rfl (d_move rfl) ?_
   refine wpL.onis rfl rfl rfl (Nat.le_of_ble_eq_true rfl) rfl (d_move rfl) ?_
   refine wpL.onis rfl rfl rfl (Nat.le_of_ble_eq_true rfl) rfl (d_lenS rfl Try.underlying22 rfl f38) ?_
   refine wpL.flat (zs zf43 0 5 ++ [u15, u19, (zf43 7), (eN i), u33, u37, u41, undef] ++ (zs zf43 13 30 ++ [u33, (eN ((encR (dataL la 24)).length)), (Value.bool false), (Value.bool false), u37, (eN ((encR (dataL lb 24)).length))] ++ (zs zf43 49 11 ++ (us 13 ++ (zs zf43 73 18))))) (by kernel_rfl) ?_
   refine wpL.onis rfl rfl rfl (Nat.le_of_ble_eq_true rfl) rfl (n_neq (a := ((encR (dataL lb 24)).length)) (b := 28) rfl rfl (by rw [decide_eq_true (encR_length hd2_)] <;> rfl)) ?_
   refine wpL.is rfl (d_pick (b := false) (v := (Value.bool false)) rfl rfl) ?_
   refine wpL.is rfl (d_move rfl) ?_
   refine wpL.flat (zs zf43 0 5 ++ [u15, u19, (zf43 7), (eN i), u33, u37, u41, undef] ++ (zs zf43 13 30 ++ [u33, (eN ((encR (dataL la 24)).length)), (Value.bool false), (Value.bool false), u37, (eN ((encR (dataL lb 24)).length)), (Value.bool false), (Value.bool false), (Value.bool false)] ++ (zs zf43 52 8 ++ (us 13 ++ (zs zf43 73 18))))) (by kernel_rfl) ?_
   refine wpL.onis rfl rfl rfl (Nat.le_of_ble_eq_true rfl) rfl (d_move rfl) ?_
   refine wpL.onis rfl rfl rfl (Nat.le_of_ble_eq_true rfl) rfl (d_lenS rfl Try.underlying22 rfl f42) ?_
   refine wpL.onis rfl rfl rfl (Nat.le_of_ble_eq_true rfl) rfl (n_neq (a := ((encR (xorTo (dataL la 24) (dataL lb 24) i)).length)) (b := 28) rfl rfl (by rw [decide_eq_true (encR_length (xorTo_length _ _ _))] <;> rfl)) ?_
   refine wpL.flat (zs zf43 0 5 ++ [u15, u19, (zf43 7), (eN i), u33, u37, u41, undef] ++ (zs zf43 13 30 ++ [u33, (eN ((encR (dataL la 24)).length)), (Value.bool false), (Value.bool false), u37, (eN ((encR (dataL lb 24)).length)), (Value.bool false), (Value.bool false), (Value.bool false), u41, (eN ((encR (xorTo (dataL la 24) (dataL lb 24) i)).length)), (Value.bool false)] ++ (zs zf43 55 5 ++ (us 13 ++ (zs zf43 73 18))))) (by kernel_rfl) ?_
   refine wpL.is rfl (d_pick (b := false) (v := (Value.bool false)) rfl rfl) ?_
   refine wpL.flat (zs zf43 0 5 ++ [u15, u19, (zf43 7), (eN i), u33, u37, u41, undef] ++ (zs zf43 13 30 ++ [u33, (eN ((encR (dataL la 24)).length)), (Value.bool false), (Value.bool false), u37, (eN ((encR (dataL lb 24)).length)), (Value.bool false), (Value.bool false), (Value.bool false), u41, (eN ((encR (xorTo (dataL la 24) (dataL lb 24) i)).length)), (Value.bool false), (Value.bool false), (zf43 56), (zf43 57), (zf43 58), (zf43 59)] ++ (us 13 ++ (zs zf43 73 18)))) (by kernel_rfl) ?_
   refine wpL.done ?_
   refine then_n ?_
   refine forget (fun zf44 => (zs zf44 0 5 ++ [u15, u19, (zf44 7), (eN i), u33, u37, u41, undef] ++ (zs zf44 13 42 ++ [(Value.bool false), (zf44 56), (zf44 57), (zf44 58), (zf44 59)] ++ (us 13 ++ (zs zf44 73 18))))) (by kernel_rfl) (fun zf44 => ?_)
   refine cond_f rfl ?_
   refine wpIn_skip ?_
   refine then_n ?_
   refine wpIn_seq ?_
   refine wpIn_seq ?_
   refine plain ?_
   refine wpL.is rfl (d_assign rfl) ?_
   refine wpL.flat (zs zf44 0 5 ++ [u15, u19, (zf44 7), (eN i), u33, u37, u41, (eN 0)] ++ (zs zf44 13 42 ++ [(Value.bool false), (zf44 56), (zf44 57), (zf44 58), (zf44 59)] ++ (us 13 ++ (zs zf44 73 18)))) (by kernel_rfl) ?_
   refine wpL.done ?_
   have he1_ := encR_length hd1_
   have he2_ := encR_length hd2_
   have he3_ := encR_length (xorTo_length (dataL la 24) (dataL lb 24) i)
   refine then_n ?_
   refine wpIn_block ?_
   refine loop2 (fun (j : (Nat)) => fun (z : Nat → Value) => (([(zf44 0), (zf44 1), (zf44 2), (zf44 3), (z 4), u15, u19, (zf44 7), (eN i), u33, u37, u41, (eN j)] ++ (zs zf44 13 42 ++ [(Value.bool false)] ++ (zs z 56 18 ++ (zs zf44 74 17)))) : List Value)) (fun (j : (Nat)) => fun (w_ : World) => (j ≤ 28) ∧ Only (Or1 zb No) w39 w_ ∧ Arr 5 zb ((xorTo (dataL la 24) (dataL lb 24) i).map eB) w_) (fun (j : (Nat)) => 28 - j) 0 rfl ?_ ?_
   ·
    refine ⟨?_, ?_, ?_⟩
    ·
     (try dsimp only)
     all_goals (omega)
    ·
     (try dsimp only)
     all_goals (exact Only.refl _ _)
    ·
     (try dsimp only)
     all_goals (exact a24)
   ·
    rintro j z w46 ⟨hj, o45, a24⟩
    (try dsimp only)
    replace h1 := h1.step o45 (or1_mono no_any)
    replace h2 := h2.step o45 (or1_mono no_any)
    replace f16 := f16.step o45 (or1_mono no_any)
    replace f20 := f20.step o45 (or1_mono no_any)
    replace f34 := f34.step o45 (or1_mono no_any)
    replace f38 := f38.step o45 (or1_mono no_any)
    replace f42 := f42.step o45 (or1_mono no_any)
    replace oW := oW.tail o45 (tl_new g_oW_zb tl_no)
    replace o26 := o26.tail o45 (tl_in in1 tl_no)
    refine wpIn_seq ?_
    refine wpIn_seq ?_
    refine plain ?_
    refine wpL.is rfl (d_move rfl) ?_
    refine wpL.is rfl (n_lss (a := j) (b := 28) rfl rfl rfl) ?_
    refine wpL.flat ([(zf44 0), (zf44 1), (zf44 2), (zf44 3), (z 4), u15, u19, (zf44 7), (eN i), u33, u37, u41, (eN j)] ++ (zs zf44 13 42 ++ [(Value.bool false), (eN j), (Value.bool (decide (j < 28)))] ++ (zs z 58 16 ++ (zs zf44 74 17)))) (by kernel_rfl) ?_
    refine wpL.done ?_
    refine then_n ?_
    refine cond_if rfl (fun c1 => ?_) (fun c1 => ?_)
    ·
     refine wpIn_skip ?_
     refine then_n ?_
     refine wpIn_seq ?_
     refine wpIn_block ?_
     refine wpIn_seq ?_
     refine drawn_pure [0, 0, 3, 7, 0, 0, 48, 112, 0, 0, 768, 1792, 4080, 8191] [(0, 60), (1, 61), (2, 62), (3, 63), (4, 64), (5, 65), (6, 66), (7, 67), (8, 68), (9, 69), (10, 70), (11, 71), (12, 72), (13, 73)] [u41, (eN j), (ixp u41 j), (eB ((encR (xorTo (dataL la 24) (dataL lb 24) i)).getD j 0)), u33, (eN j), (ixp u33 j), (eB ((encR (dataL la 24)).getD j 0)), u37, (eN j), (ixp u37 j), (eB ((encR (dataL lb 24)).getD j 0)), (eB (((encR (dataL la 24)).getD j 0) ^^^ ((encR (dataL lb 24)).getD j 0))), (Value.bool false)] ([(zf44 0), (zf44 1), (zf44 2), (zf44 3), (z 4), u15, u19, (zf44 7), (eN i), u33, u37, u41, (eN j)] ++ (zs zf44 13 42 ++ [(Value.bool false), (eN j), (Value.bool (decide (j < 28))), (z 58), (z 59), u41, (eN j), (ixp u41 j), (eB ((encR (xorTo (dataL la 24) (dataL lb 24) i)).getD j 0)), u33, (eN j), (ixp u33 j), (eB ((encR (dataL la 24)).getD j 0)), u37, (eN j), (ixp u37 j), (eB ((encR (dataL lb 24)).getD j 0)), (eB (((encR (dataL la 24)).getD j 0) ^^^ ((encR (dataL lb 24)).getD j 0))), (Value.bool false)] ++ (zs zf44 74 17))) s_mx (by kernel_rfl) (by kernel_rfl) rfl (by kernel_rfl) (by kernel_rfl) ?_ ?_
     ·
      intro w_ hO_
      refine AllG.cons (gi rfl (d_move rfl)) ?_
      refine AllG.cons (gi rfl (d_move rfl)) ?_
      refine AllG.cons (gi rfl (d_ix (i := j) (xs := (encR (xorTo (dataL la 24) (dataL lb 24) i))) Try.underlying22 s_ti5 rfl (f42.step0 hO_) (show _ = Value.int _ ((j : Nat) : Int) from rfl) (by have := dataL_length la 24; have := dataL_length lb 24; have := encR_len (xorTo (dataL la 24) (dataL lb 24) i); have := xorTo_length (dataL la 24) (dataL lb 24) i; first | omega | (simp; done) | (simp; omega)))) ?_
      refine AllG.cons (gi rfl (d_ldx (i := j) (xs := (encR (xorTo (dataL la 24) (dataL lb 24) i))) (enc := eB) (v := ((encR (xorTo (dataL la 24) (dataL lb 24) i)).getD j 0)) ⟨_, Try.underlying5, rfl⟩ rfl (f42.step0 hO_) (g_at (by have := dataL_length la 24; have := dataL_length lb 24; have := encR_len (xorTo (dataL la 24) (dataL lb 24) i); have := xorTo_length (dataL la 24) (dataL lb 24) i; first | omega | (simp; done) | (simp; omega))))) ?_
      refine AllG.cons (gi rfl (d_move rfl)) ?_
      refine AllG.cons (gi rfl (d_move rfl)) ?_
      refine AllG.cons (gi rfl (d_ix (i := j) (xs := (encR (dataL la 24))) Try.underlying22 s_ti5 rfl (f34.step0 hO_) (show _ = Value.int _ ((j : Nat) : Int) from rfl) (by have := dataL_length la 24; have := encR_len (dataL la 24); first | omega | (simp; done) | (simp; omega)))) ?_
      refine AllG.cons (gi rfl (d_ldx (i := j) (xs := (encR (dataL la 24))) (enc := eB) (v := ((encR (dataL la 24)).getD j 0)) ⟨_, Try.underlying5, rfl⟩ rfl (f34.step0 hO_) (g_at (by have := dataL_length la 24; have := encR_len (dataL la 24); first | omega | (simp; done) | (simp; omega))))) ?_
      refine AllG.cons (gi rfl (d_move rfl)) ?_
      refine AllG.cons (gi rfl (d_move rfl)) ?_
      refine AllG.cons (gi rfl (d_ix (i := j) (xs := (encR (dataL lb 24))) Try.underlying22 s_ti5 rfl (f38.step0 hO_) (show _ = Value.int _ ((j : Nat) : Int) from rfl) (by have := dataL_length lb 24; have := encR_len (dataL lb 24); first | omega | (simp; done) | (simp; omega)))) ?_
      refine AllG.cons (gi rfl (d_ldx (i := j) (xs := (encR (dataL lb 24))) (enc := eB) (v := ((encR (dataL lb 24)).getD j 0)) ⟨_, Try.underlying5, rfl⟩ rfl (f38.step0 hO_) (g_at (by have := dataL_length lb 24; have := encR_len (dataL lb 24); first | omega | (simp; done) | (simp; omega))))) ?_
      refine AllG.cons (gi rfl (b_xor (c := ((encR (dataL la 24)).getD j 0)) (e := ((encR (dataL lb 24)).getD j 0)) rfl rfl)) ?_
      refine AllG.cons (gi rfl (b_neq (c := ((encR (xorTo (dataL la 24) (dataL lb 24) i)).getD j 0)) (e := (((encR (dataL la 24)).getD j 0) ^^^ ((encR (dataL lb 24)).getD j 0))) rfl rfl (by rw [decide_eq_true (by rw [xorTo_done _ _ (by omega)]; exact enc_xor_at hd1_ hd2_ c1)] <;> rfl))) ?_
      exact AllG.nil
     intro w47 o48
     replace h1 := h1.step0 o48
     replace h2 := h2.step0 o48
     replace f16 := f16.step0 o48
     replace f20 := f20.step0 o48
     replace f34 := f34.step0 o48
     replace f38 := f38.step0 o48
     replace f42 := f42.step0 o48
     replace a24 := a24.step0 o48
     replace oW := oW.tail0 o48
     replace o26 := o26.tail0 o48
     replace o45 := o45.tail0 o48
     refine then_n ?_
     refine cond_f rfl ?_
     refine wpIn_skip ?_
     refine inb_n (then_n ?_)
     refine plain ?_
     refine wpL.is rfl (d_move rfl) ?_
     refine wpL.is rfl (n_add (a := j) (b := 1) rfl rfl (by omega)) ?_
     refine wpL.is rfl (d_assign rfl) ?_
     refine wpL.flat ([(zf44 0), (zf44 1), (zf44 2), (zf44 3), (z 4), u15, u19, (zf44 7), (eN i), u33, u37, u41, (eN (j + 1))] ++ (zs zf44 13 42 ++ [(Value.bool false), (eN j), (Value.bool (decide (j < 28))), (eN j), (eN (j + 1)), u41, (eN j), (ixp u41 j), (eB ((encR (xorTo (dataL la 24) (dataL lb 24) i)).getD j 0)), u33, (eN j), (ixp u33 j), (eB ((encR (dataL la 24)).getD j 0)), u37, (eN j), (ixp u37 j), (eB ((encR (dataL lb 24)).getD j 0)), (eB (((encR (dataL la 24)).getD j 0) ^^^ ((encR (dataL lb 24)).getD j 0))), (Value.bool false)] ++ (zs zf44 74 17))) (by kernel_rfl) ?_
     refine wpL.done ?_
     refine then_n ?_
     refine ⟨_, (j + 1), rfl, rfl, ⟨?_, ?_, ?_⟩, ?_⟩
     ·
      (try dsimp only)
      all_goals (omega)
     ·
      (try dsimp only)
      all_goals (exact o45)
     ·
      (try dsimp only)
      all_goals (exact a24)
     ·
      (try dsimp only)
      all_goals (omega)
    ·
     refine wpIn_exit ?_
     refine then_x (then_x (inb_e ?_))
     refine then_n ?_
     refine wpIn_seq ?_
     refine plain ?_
     refine wpL.is rfl (d_move rfl) ?_
     refine wpL.is rfl (d_move rfl) ?_
     refine wpL.op rfl (d_call (xl := [.tmp 74, .tmp 75]) (al := [u33, u37]) Try.func16 (by kernel_rfl) rfl rfl rfl (ref6Apart_ok (encR (dataL la 24)) (encR (dataL lb 24)) u33 u37 _ (Ps.no f34) (Ps.no f38) (by have := dataL_length la 24; have := encR_len (dataL la 24); first | omega | (simp; done) | (simp; omega)) (by have := dataL_length lb 24; have := encR_len (dataL lb 24); first | omega | (simp; done) | (simp; omega)))) ?_
     rintro u51 w49 f52
     replace f52 := f52.ps
     obtain ⟨f52, o50⟩ := f52
     replace f52 := f52.less (Y := (Or1 zb (Old W.heap.size))) (or1_old a24.lt (old_old oW.size))
     replace h1 := h1.step0 o50
     replace h2 := h2.step0 o50
     replace f16 := f16.step0 o50
     replace f20 := f20.step0 o50
     replace f34 := f34.step0 o50
     replace f38 := f38.step0 o50
     replace f42 := f42.step0 o50
     replace a24 := a24.step0 o50
     replace oW := oW.tail0 o50
     replace o26 := o26.tail0 o50
     replace o45 := o45.tail0 o50
     refine wpL.flat ([(zf44 0), (zf44 1), (zf44 2), (zf44 3), (z 4), u15, u19, (zf44 7), (eN i), u33, u37, u41, (eN j)] ++ (zs zf44 13 42 ++ [(Value.bool false), (eN j), (Value.bool (decide (j < 28)))] ++ (zs z 58 16 ++ [u33, u37, u51] ++ (zs zf44 77 14)))) (by kernel_rfl) ?_
     refine wpL.is rfl (d_lenS rfl Try.underlying26 rfl f52) ?_
     refine wpL.is rfl (d_assign rfl) ?_
     refine wpL.flat ([(zf44 0), (zf44 1), (zf44 2), (zf44 3), (z 4), u15, u19, (zf44 7), (eN i), u33, u37, u41, (eN j), (eN ((apR (encR (dataL la 24)) (encR (dataL lb 24))).length))] ++ (zs zf44 14 41 ++ [(Value.bool false), (eN j), (Value.bool (decide (j < 28)))] ++ (zs z 58 16 ++ [u33, u37, u51, (eN ((apR (encR (dataL la 24)) (encR (dataL lb 24))).length))] ++ (zs zf44 78 13)))) (by kernel_rfl) ?_
     refine wpL.done ?_
     refine then_n ?_
     refine forget (fun zf53 => (zs zf53 0 5 ++ [u15, u19, (zf53 7), (eN i), (zf53 9), (zf53 10), (zf53 11), (eN j), (eN ((apR (encR (dataL la 24)) (encR (dataL lb 24))).length))] ++ (zs zf53 14 77))) (by kernel_rfl) (fun zf53 => ?_)
     refine wpIn_seq ?_
     by_cases k0 : ((apR (encR (dataL la 24)) (encR (dataL lb 24))).length) = 0
     ·
      refine plain ?_
      refine wpL.is rfl (d_move rfl) ?_
      refine wpL.is rfl (n_eql (a := ((apR (encR (dataL la 24)) (encR (dataL lb 24))).length)) (b := 0) rfl rfl (decide_eq_true k0)) ?_
      refine wpL.is rfl (d_move rfl) ?_
      refine wpL.flat (zs zf53 0 5 ++ [u15, u19, (zf53 7), (eN i), (zf53 9), (zf53 10), (zf53 11), (eN j), (eN ((apR (encR (dataL la 24)) (encR (dataL lb 24))).length))] ++ (zs zf53 14 64 ++ [(eN ((apR (encR (dataL la 24)) (encR (dataL lb 24))).length)), (Value.bool true), (Value.bool true)] ++ (zs zf53 81 10))) (by kernel_rfl) ?_
      refine wpL.onis rfl rfl rfl (Nat.le_of_ble_eq_true rfl) rfl (d_move rfl) ?_
      refine wpL.onis rfl rfl rfl (Nat.le_of_ble_eq_true rfl) rfl (d_str Try.underlying22 Try.underlying5 Try.underlying9 rfl f16) ?_
      refine wpL.onis rfl rfl rfl (Nat.le_of_ble_eq_true rfl) rfl (d_move rfl) ?_
      refine wpL.flat (zs zf53 0 5 ++ [u15, u19, (zf53 7), (eN i), (zf53 9), (zf53 10), (zf53 11), (eN j), (eN ((apR (encR (dataL la 24)) (encR (dataL lb 24))).length))] ++ (zs zf53 14 64 ++ [(eN ((apR (encR (dataL la 24)) (encR (dataL lb 24))).length)), (Value.bool true), (Value.bool true), u15, (Value.string (strOf (dataL la 24))), u19] ++ (zs zf53 84 7))) (by kernel_rfl) ?_
      refine wpL.onis rfl rfl rfl (Nat.le_of_ble_eq_true rfl) rfl (d_str Try.underlying22 Try.underlying5 Try.underlying9 rfl f20) ?_
      refine wpL.onis rfl rfl rfl (Nat.le_of_ble_eq_true rfl) rfl (d_seql (a := (dataL la 24)) (c := (dataL lb 24)) rfl rfl (decide_eq_true (sums_same hd1_ hd2_ k0))) ?_
      refine wpL.is rfl (d_pick (b := true) (v := (Value.bool true)) rfl rfl) ?_
      refine wpL.flat (zs zf53 0 5 ++ [u15, u19, (zf53 7), (eN i), (zf53 9), (zf53 10), (zf53 11), (eN j), (eN ((apR (encR (dataL la 24)) (encR (dataL lb 24))).length))] ++ (zs zf53 14 64 ++ [(eN ((apR (encR (dataL la 24)) (encR (dataL lb 24))).length)), (Value.bool true), (Value.bool true), u15, (Value.string (strOf (dataL la 24))), u19, (Value.string (strOf (dataL lb 24))), (Value.bool true), (Value.bool true), (zf53 87), (zf53 88), (zf53 89), (zf53 90)])) (by kernel_rfl) ?_
      refine wpL.is rfl (d_move rfl) ?_
      refine wpL.off rfl rfl rfl (Nat.le_of_ble_eq_true rfl) rfl ?_
      refine wpL.flat (zs zf53 0 5 ++ [u15, u19, (zf53 7), (eN i), (zf53 9), (zf53 10), (zf53 11), (eN j), (eN ((apR (encR (dataL la 24)) (encR (dataL lb 24))).length))] ++ (zs zf53 14 64 ++ [(eN ((apR (encR (dataL la 24)) (encR (dataL lb 24))).length)), (Value.bool true), (Value.bool true), u15, (Value.string (strOf (dataL la 24))), u19, (Value.string (strOf (dataL lb 24))), (Value.bool true), (Value.bool true), (Value.bool true), undef, (zf53 89), (zf53 90)])) (by kernel_rfl) ?_
      refine wpL.off rfl rfl rfl (Nat.le_of_ble_eq_true rfl) rfl ?_
      refine wpL.is rfl (d_pick (b := true) (v := (Value.bool true)) rfl rfl) ?_
      refine wpL.is rfl (d_assign rfl) ?_
      refine wpL.flat ([(zf53 0), (zf53 1), (zf53 2), (zf53 3), (Value.bool true), u15, u19, (zf53 7), (eN i), (zf53 9), (zf53 10), (zf53 11), (eN j), (eN ((apR (encR (dataL la 24)) (encR (dataL lb 24))).length))] ++ (zs zf53 14 64 ++ [(eN ((apR (encR (dataL la 24)) (encR (dataL lb 24))).length)), (Value.bool true), (Value.bool true), u15, (Value.string (strOf (dataL la 24))), u19, (Value.string (strOf (dataL lb 24))), (Value.bool true), (Value.bool true), (Value.bool true), undef, undef, (Value.bool true)])) (by kernel_rfl) ?_
      refine wpL.done ?_
      refine then_n ?_
      refine forget (fun zf54 => ([(zf54 0), (zf54 1), (zf54 2), (zf54 3), (Value.bool true), (zf54 5), (zf54 6), (zf54 7), (eN i), (zf54 9), (zf54 10), (zf54 11), (eN j)] ++ (zs zf54 13 78))) (by kernel_rfl) (fun zf54 => ?_)
      refine wpIn_ret ?_
      refine leave0 (v := (Value.bool true)) (res1 Try.results3 rfl) ?_
      exact ⟨rfl, oW⟩
     ·
      refine plain ?_
      refine wpL.is rfl (d_move rfl) ?_
      refine wpL.is rfl (n_eql (a := ((apR (encR (dataL la 24)) (encR (dataL lb 24))).length)) (b := 0) rfl rfl (decide_eq_false k0)) ?_
      refine wpL.is rfl (d_move rfl) ?_
      refine wpL.flat (zs zf53 0 5 ++ [u15, u19, (zf53 7), (eN i), (zf53 9), (zf53 10), (zf53 11), (eN j), (eN ((apR (encR (dataL la 24)) (encR (dataL lb 24))).length))] ++ (zs zf53 14 64 ++ [(eN ((apR (encR (dataL la 24)) (encR (dataL lb 24))).length)), (Value.bool false), (Value.bool false)] ++ (zs zf53 81 10))) (by kernel_rfl) ?_
      refine wpL.off rfl rfl rfl (Nat.le_of_ble_eq_true rfl) rfl ?_
      refine wpL.off rfl rfl rfl (Nat.le_of_ble_eq_true rfl) rfl ?_
      refine wpL.flat (zs zf53 0 5 ++ [u15, u19, (zf53 7), (eN i), (zf53 9), (zf53 10), (zf53 11), (eN j), (eN ((apR (encR (dataL la 24)) (encR (dataL lb 24))).length))] ++ (zs zf53 14 64 ++ [(eN ((apR (encR (dataL la 24)) (encR (dataL lb 24))).length)), (Value.bool false), (Value.bool false), undef, undef] ++ (zs zf53 83 8))) (by kernel_rfl) ?_
      refine wpL.off rfl rfl rfl (Nat.le_of_ble_eq_true rfl) rfl ?_
      refine wpL.off rfl rfl rfl (Nat.le_of_ble_eq_true rfl) rfl ?_
      refine wpL.off rfl rfl rfl (Nat.le_of_ble_eq_true rfl) rfl ?_
      refine wpL.is rfl (d_pick (b := false) (v := (Value.bool false)) rfl rfl) ?_
      refine wpL.flat (zs zf53 0 5 ++ [u15, u19, (zf53 7), (eN i), (zf53 9), (zf53 10), (zf53 11), (eN j), (eN ((apR (encR (dataL la 24)) (encR (dataL lb 24))).length))] ++ (zs zf53 14 64 ++ [(eN ((apR (encR (dataL la 24)) (encR (dataL lb 24))).length)), (Value.bool false), (Value.bool false)] ++ (us 5 ++ [(Value.bool false), (zf53 87), (zf53 88), (zf53 89), (zf53 90)]))) (by kernel_rfl) ?_
      refine wpL.is rfl (d_move rfl) ?_
      refine wpL.onis rfl rfl rfl (Nat.le_of_ble_eq_true rfl) rfl (d_move rfl) ?_
      refine wpL.onis rfl rfl rfl (Nat.le_of_ble_eq_true rfl) rfl (n_geq (a := ((apR (encR (dataL la 24)) (encR (dataL lb 24))).length)) (b := 9) rfl rfl (decide_eq_true (sums_far hd1_ hd2_ k0))) ?_
      refine wpL.flat (zs zf53 0 5 ++ [u15, u19, (zf53 7), (eN i), (zf53 9), (zf53 10), (zf53 11), (eN j), (eN ((apR (encR (dataL la 24)) (encR (dataL lb 24))).length))] ++ (zs zf53 14 64 ++ [(eN ((apR (encR (dataL la 24)) (encR (dataL lb 24))).length)), (Value.bool false), (Value.bool false)] ++ (us 5 ++ [(Value.bool false), (Value.bool false), (eN ((apR (encR (dataL la 24)) (encR (dataL lb 24))).length)), (Value.bool true), (zf53 90)]))) (by kernel_rfl) ?_
      refine wpL.is rfl (d_pick (b := false) (v := (Value.bool true)) rfl rfl) ?_
      refine wpL.is rfl (d_assign rfl) ?_
      refine wpL.flat ([(zf53 0), (zf53 1), (zf53 2), (zf53 3), (Value.bool true), u15, u19, (zf53 7), (eN i), (zf53 9), (zf53 10), (zf53 11), (eN j), (eN ((apR (encR (dataL la 24)) (encR (dataL lb 24))).length))] ++ (zs zf53 14 64 ++ [(eN ((apR (encR (dataL la 24)) (encR (dataL lb 24))).length)), (Value.bool false), (Value.bool false)] ++ (us 5 ++ [(Value.bool false), (Value.bool false), (eN ((apR (encR (dataL la 24)) (encR (dataL lb 24))).length)), (Value.bool true), (Value.bool true)]))) (by kernel_rfl) ?_
      refine wpL.done ?_
      refine then_n ?_
      refine forget (fun zf55 => ([(zf55 0), (zf55 1), (zf55 2), (zf55 3), (Value.bool true), (zf55 5), (zf55 6), (zf55 7), (eN i), (zf55 9), (zf55 10), (zf55 11), (eN j)] ++ (zs zf55 13 78))) (by kernel_rfl) (fun zf55 => ?_)
      refine wpIn_ret ?_
      refine leave0 (v := (Value.bool true)) (res1 Try.results3 rfl) ?_
      exact ⟨rfl, oW⟩

end Go.Proofs.YtkppgdbpadaegaaF
