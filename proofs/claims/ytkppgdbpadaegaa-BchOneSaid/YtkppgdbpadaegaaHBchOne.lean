import Derived.Test.YtkppgdbpadaegaaFl
import Derived.Test.YtkppgdbpadaegaaTy
import Derived.Test.YtkppgdbpadaegaaHutil
import Derived.Test.YtkppgdbpadaegaaMj
set_option linter.unusedVariables false
set_option linter.unusedSimpArgs false
namespace Go.Proofs.YtkppgdbpadaegaaF
open Go Go.Shelf Go.Proofs.YtkppgdbpadaegaaS Ram
set_option maxRecDepth 20000 in
set_option maxHeartbeats 1000000 in
theorem bchOne_law (la : List UInt8) (k : Int) (u1 : Value) (W : World) (h1 : Ps No (Seq kB la u1) W) (g1 : la.length ≤ 140737488351232) :
    CW Try.prog 10 #[u1, (eI k)] W (Rt (RIs (.bool true) W)) := by
 have oW : Only No W W := Only.refl _ _
 refine enter (al := [u1, (eI k)]) (k := 61) (l := ([u1, (eI k)] ++ (us 61))) Try.func10 rfl Try.ntmps10 rfl rfl ?_
 refine wpIn_seq ?_
 refine plain ?_
 refine wpL.is rfl (d_assign rfl) ?_
 refine wpL.flat ([u1, (eI k), undef, undef, (Value.bool false)] ++ (us 58)) (by kernel_rfl) ?_
 refine wpL.done ?_
 refine then_n ?_
 refine wpIn_seq ?_
 refine wpIn_seq ?_
 refine plain ?_
 refine wpL.op rfl (d_call (xl := []) (al := []) Try.func13 (by kernel_rfl) rfl rfl rfl (l4known_ok _)) ?_
 rintro _ w11 ⟨rfl, o12⟩
 replace h1 := h1.step0 o12
 replace oW := oW.tail0 o12
 refine wpL.is rfl (d_not rfl rfl) ?_
 refine wpL.flat ([u1, (eI k), undef, undef, (Value.bool false)] ++ (us 7 ++ [(Value.bool true), (Value.bool false)] ++ (us 49))) (by kernel_rfl) ?_
 refine wpL.done ?_
 refine then_n ?_
 refine cond_f rfl ?_
 refine wpIn_skip ?_
 refine then_n ?_
 refine wpIn_seq ?_
 refine plain ?_
 refine wpL.is rfl (d_move rfl) ?_
 refine wpL.op rfl (d_call (xl := [.tmp 14, .const (.int .i64 24)]) (al := [u1, (eN 24)]) Try.func14 (by kernel_rfl) rfl rfl rfl (l4Data_ok la 24 u1 _ (Ps.no h1) (by omega))) ?_
 rintro u15 w13 f16
 replace f16 := f16.ps
 obtain ⟨f16, o14⟩ := f16
 replace f16 := f16.less (Y := (Old W.heap.size)) (old_old oW.size)
 replace h1 := h1.step0 o14
 replace oW := oW.tail0 o14
 refine wpL.is rfl (d_assign rfl) ?_
 refine wpL.flat ([u1, (eI k), undef, undef, (Value.bool false), u15] ++ (us 6 ++ [(Value.bool true), (Value.bool false), u1, u15] ++ (us 47))) (by kernel_rfl) ?_
 refine wpL.done ?_
 refine then_n ?_
 refine wpIn_seq ?_
 refine plain ?_
 refine wpL.is rfl (d_move rfl) ?_
 refine wpL.op rfl (d_call (xl := [.tmp 16, .const (.int .i64 224)]) (al := [(eI k), (eN 224)]) Try.func31 (by kernel_rfl) rfl rfl rfl (l4within_ok k 224 _ (by omega) (by omega))) ?_
 rintro _ w17 ⟨rfl, o18⟩
 replace h1 := h1.step0 o18
 replace f16 := f16.step0 o18
 replace oW := oW.tail0 o18
 refine wpL.is rfl (d_assign rfl) ?_
 refine wpL.flat ([u1, (eN ((k % ((224 : Nat) : Int)).toNat)), undef, undef, (Value.bool false), u15] ++ (us 6 ++ [(Value.bool true), (Value.bool false), u1, u15, (eI k), (eN ((k % ((224 : Nat) : Int)).toNat))] ++ (us 45))) (by kernel_rfl) ?_
 refine wpL.done ?_
 have hk_ : ((k % ((224 : Nat) : Int)).toNat) < 224 := by have h__ := Int.emod_lt_of_pos k (show (0 : Int) < ((224 : Nat) : Int) by decide); omega
 refine then_n ?_
 refine forget (fun zf19 => ([(zf19 0), (eN ((k % ((224 : Nat) : Int)).toNat)), (zf19 2), (zf19 3), (zf19 4), u15] ++ (zs zf19 6 31 ++ (us 26)))) (by kernel_rfl) (fun zf19 => ?_)
 refine wpIn_seq ?_
 refine plain ?_
 refine wpL.is rfl (d_move rfl) ?_
 refine wpL.op rfl (d_call (xl := [.tmp 19]) (al := [u15]) Try.func15 (by kernel_rfl) rfl rfl rfl (bchEncode_ok (dataL la 24) u15 _ (Ps.no f16) (by have := dataL_length la 24; first | omega | (simp; done) | (simp; omega)))) ?_
 rintro u22 w20 f23
 replace f23 := f23.ps
 obtain ⟨f23, o21⟩ := f23
 replace f23 := f23.less (Y := (Old W.heap.size)) (old_old oW.size)
 replace h1 := h1.step0 o21
 replace f16 := f16.step0 o21
 replace oW := oW.tail0 o21
 refine wpL.is rfl (d_move rfl) ?_
 refine wpL.flat ([(zf19 0), (eN ((k % ((224 : Nat) : Int)).toNat)), (zf19 2), (zf19 3), (zf19 4), u15] ++ (zs zf19 6 13 ++ [u15, u22, (eN ((k % ((224 : Nat) : Int)).toNat))] ++ (zs zf19 22 15 ++ (us 26)))) (by kernel_rfl) ?_
 refine wpL.op rfl (d_buildL (cs := [(eN ((k % ((224 : Nat) : Int)).toNat))]) Try.underlying26 s_ti3 rfl (Nat.le_of_ble_eq_true rfl) (parts_cons (vs := [(eN ((k % ((224 : Nat) : Int)).toNat))]) (cells_of (v := (eN ((k % ((224 : Nat) : Int)).toNat))) rfl rfl) parts_nil) rfl) ?_
 rintro _ w25 ⟨b24, rfl, g26, a27, o28⟩
 replace a27 : Arr 3 b24 (([(k % ((224 : Nat) : Int)).toNat] : List Nat).map eN) w25 := a27
 have l_b24 : ([(k % ((224 : Nat) : Int)).toNat] : List Nat).length = 1 := rfl
 have g_oW_b24 : W.heap.size ≤ b24 := Nat.le_trans oW.size g26
 replace h1 := h1.new o28 g26
 replace f16 := f16.new o28 g26
 replace f23 := f23.new o28 g26
 replace oW := oW.tail0 o28
 refine wpL.op rfl (d_call (xl := [.tmp 20, .tmp 22]) (al := [u22, (sli b24 0 1 1)]) Try.func24 (by kernel_rfl) rfl rfl rfl (ref6Flip_ok (encR (dataL la 24)) ([(k % ((224 : Nat) : Int)).toNat] : List Nat) u22 (sli b24 0 1 1) _ (Ps.no f23) (Ps.no (arr_seq a27 l_b24 (Nat.le_refl _))) (by have := dataL_length la 24; have := encR_len (dataL la 24); first | omega | (simp; done) | (simp; omega)) (by first | omega | (simp; done) | (simp; omega)) (fun k_ hk_ => by simp only [List.mem_singleton] at hk_; subst hk_; rw [encR_length (dataL_length _ _)]; omega))) ?_
 rintro u31 w29 f32
 replace f32 := f32.ps
 obtain ⟨f32, o30⟩ := f32
 replace f32 := f32.less (Y := (Or1 b24 (Old W.heap.size))) (or1_old a27.lt (old_old oW.size))
 replace h1 := h1.step0 o30
 replace f16 := f16.step0 o30
 replace f23 := f23.step0 o30
 replace a27 := a27.step0 o30
 replace oW := oW.tail0 o30
 refine wpL.op rfl (d_call (xl := [.tmp 23]) (al := [u31]) Try.func29 (by kernel_rfl) rfl rfl rfl (bchDecode_ok (flipL (encR (dataL la 24)) ([(k % ((224 : Nat) : Int)).toNat] : List Nat)) u31 _ (Ps.no f32) (by have := flipL_length (encR (dataL la 24)) ([(k % ((224 : Nat) : Int)).toNat] : List Nat); have := dataL_length la 24; have := encR_len (dataL la 24); first | omega | (simp; done) | (simp; omega)))) ?_
 rintro _ w33 ⟨u35, rfl, f36, o34⟩
 replace f36 := f36.less (Y := (Or1 b24 (Old W.heap.size))) (or1_old a27.lt (old_old oW.size))
 replace h1 := h1.step0 o34
 replace f16 := f16.step0 o34
 replace f23 := f23.step0 o34
 replace f32 := f32.step0 o34
 replace a27 := a27.step0 o34
 replace oW := oW.tail0 o34
 refine wpL.flat ([(zf19 0), (eN ((k % ((224 : Nat) : Int)).toNat)), (zf19 2), (zf19 3), (zf19 4), u15] ++ (zs zf19 6 13 ++ [u15, u22, (eN ((k % ((224 : Nat) : Int)).toNat)), (sli b24 0 1 1), u31, (Value.tuple #[u35, (eN (decN (flipL (encR (dataL la 24)) ([(k % ((224 : Nat) : Int)).toNat] : List Nat)))), (Value.bool (decB (flipL (encR (dataL la 24)) ([(k % ((224 : Nat) : Int)).toNat] : List Nat))))])] ++ (zs zf19 25 12 ++ (us 26)))) (by kernel_rfl) ?_
 refine wpL.is rfl (d_move rfl) ?_
 refine wpL.is rfl (d_extract (v := u35) rfl rfl) ?_
 refine wpL.is rfl (d_extract (v := (eN (decN (flipL (encR (dataL la 24)) ([(k % ((224 : Nat) : Int)).toNat] : List Nat))))) rfl rfl) ?_
 refine wpL.flat ([(zf19 0), (eN ((k % ((224 : Nat) : Int)).toNat)), (zf19 2), (zf19 3), (zf19 4), u15] ++ (zs zf19 6 12 ++ [(Value.tuple #[u35, (eN (decN (flipL (encR (dataL la 24)) ([(k % ((224 : Nat) : Int)).toNat] : List Nat)))), (Value.bool (decB (flipL (encR (dataL la 24)) ([(k % ((224 : Nat) : Int)).toNat] : List Nat))))]), u15, u22, (eN ((k % ((224 : Nat) : Int)).toNat)), (sli b24 0 1 1), u31, (Value.tuple #[u35, (eN (decN (flipL (encR (dataL la 24)) ([(k % ((224 : Nat) : Int)).toNat] : List Nat)))), (Value.bool (decB (flipL (encR (dataL la 24)) ([(k % ((224 : Nat) : Int)).toNat] : List Nat))))]), u35, (eN (decN (flipL (encR (dataL la 24)) ([(k % ((224 : Nat) : Int)).toNat] : List Nat))))] ++ (zs zf19 27 10 ++ (us 26)))) (by kernel_rfl) ?_
 refine wpL.is rfl (d_extract (v := (Value.bool (decB (flipL (encR (dataL la 24)) ([(k % ((224 : Nat) : Int)).toNat] : List Nat))))) rfl rfl) ?_
 refine wpL.is rfl (d_assign rfl) ?_
 refine wpL.is rfl (d_assign rfl) ?_
 refine wpL.flat ([(zf19 0), (eN ((k % ((224 : Nat) : Int)).toNat)), (zf19 2), (zf19 3), (zf19 4), u15, u35, (eN (decN (flipL (encR (dataL la 24)) ([(k % ((224 : Nat) : Int)).toNat] : List Nat))))] ++ (zs zf19 8 10 ++ [(Value.tuple #[u35, (eN (decN (flipL (encR (dataL la 24)) ([(k % ((224 : Nat) : Int)).toNat] : List Nat)))), (Value.bool (decB (flipL (encR (dataL la 24)) ([(k % ((224 : Nat) : Int)).toNat] : List Nat))))]), u15, u22, (eN ((k % ((224 : Nat) : Int)).toNat)), (sli b24 0 1 1), u31, (Value.tuple #[u35, (eN (decN (flipL (encR (dataL la 24)) ([(k % ((224 : Nat) : Int)).toNat] : List Nat)))), (Value.bool (decB (flipL (encR (dataL la 24)) ([(k % ((224 : Nat) : Int)).toNat] : List Nat))))]), u35, (eN (decN (flipL (encR (dataL la 24)) ([(k % ((224 : Nat) : Int)).toNat] : List Nat)))), (Value.bool (decB (flipL (encR (dataL la 24)) ([(k % ((224 : Nat) : Int)).toNat] : List Nat))))] ++ (zs zf19 28 9 ++ (us 26)))) (by kernel_rfl) ?_
 refine wpL.is rfl (d_assign rfl) ?_
 refine wpL.flat ([(zf19 0), (eN ((k % ((224 : Nat) : Int)).toNat)), (zf19 2), (zf19 3), (zf19 4), u15, u35, (eN (decN (flipL (encR (dataL la 24)) ([(k % ((224 : Nat) : Int)).toNat] : List Nat)))), (Value.bool (decB (flipL (encR (dataL la 24)) ([(k % ((224 : Nat) : Int)).toNat] : List Nat))))] ++ (zs zf19 9 9 ++ [(Value.tuple #[u35, (eN (decN (flipL (encR (dataL la 24)) ([(k % ((224 : Nat) : Int)).toNat] : List Nat)))), (Value.bool (decB (flipL (encR (dataL la 24)) ([(k % ((224 : Nat) : Int)).toNat] : List Nat))))]), u15, u22, (eN ((k % ((224 : Nat) : Int)).toNat)), (sli b24 0 1 1), u31, (Value.tuple #[u35, (eN (decN (flipL (encR (dataL la 24)) ([(k % ((224 : Nat) : Int)).toNat] : List Nat)))), (Value.bool (decB (flipL (encR (dataL la 24)) ([(k % ((224 : Nat) : Int)).toNat] : List Nat))))]), u35, (eN (decN (flipL (encR (dataL la 24)) ([(k % ((224 : Nat) : Int)).toNat] : List Nat)))), (Value.bool (decB (flipL (encR (dataL la 24)) ([(k % ((224 : Nat) : Int)).toNat] : List Nat))))] ++ (zs zf19 28 9 ++ (us 26)))) (by kernel_rfl) ?_
 refine wpL.done ?_
 refine then_n ?_
 refine forget (fun zf41 => ([(zf41 0), (eN ((k % ((224 : Nat) : Int)).toNat)), (zf41 2), (zf41 3), (zf41 4), u15, u35, (eN (decN (flipL (encR (dataL la 24)) ([(k % ((224 : Nat) : Int)).toNat] : List Nat)))), (Value.bool (decB (flipL (encR (dataL la 24)) ([(k % ((224 : Nat) : Int)).toNat] : List Nat))))] ++ (zs zf41 9 28 ++ (us 26)))) (by kernel_rfl) (fun zf41 => ?_)
 refine wpIn_seq ?_
 refine plain ?_
 refine wpL.op rfl (d_make1 (n := 28) Try.underlying22 s_ti5 rfl rfl (by omega) (by omega) rfl) ?_
 rintro _ w43 ⟨b42, rfl, g44, a45, o46⟩
 replace a45 : Arr 5 b42 ((List.replicate 28 0).map eB) w43 := by rw [List.map_replicate]; exact a45
 have l_b42 : (List.replicate 28 0 : List UInt8).length = 28 := by simp
 have n_b24_b42 : b24 ≠ b42 := a27.ne g44
 have g_oW_b42 : W.heap.size ≤ b42 := Nat.le_trans oW.size g44
 replace h1 := h1.new o46 g44
 replace f16 := f16.new o46 g44
 replace f23 := f23.new o46 g44
 replace f32 := f32.new o46 g44
 replace f36 := f36.new o46 g44
 replace a27 := a27.step0 o46
 replace oW := oW.tail0 o46
 refine wpL.is rfl (d_move rfl) ?_
 refine wpL.op rfl (d_buildL (cs := [(eN ((k % ((224 : Nat) : Int)).toNat))]) Try.underlying26 s_ti3 rfl (Nat.le_of_ble_eq_true rfl) (parts_cons (vs := [(eN ((k % ((224 : Nat) : Int)).toNat))]) (cells_of (v := (eN ((k % ((224 : Nat) : Int)).toNat))) rfl rfl) parts_nil) rfl) ?_
 rintro _ w48 ⟨b47, rfl, g49, a50, o51⟩
 replace a50 : Arr 3 b47 (([(k % ((224 : Nat) : Int)).toNat] : List Nat).map eN) w48 := a50
 have l_b47 : ([(k % ((224 : Nat) : Int)).toNat] : List Nat).length = 1 := rfl
 have n_b24_b47 : b24 ≠ b47 := a27.ne g49
 have n_b42_b47 : b42 ≠ b47 := a45.ne g49
 have g_oW_b47 : W.heap.size ≤ b47 := Nat.le_trans oW.size g49
 replace h1 := h1.new o51 g49
 replace f16 := f16.new o51 g49
 replace f23 := f23.new o51 g49
 replace f32 := f32.new o51 g49
 replace f36 := f36.new o51 g49
 replace a27 := a27.step0 o51
 replace a45 := a45.step0 o51
 replace oW := oW.tail0 o51
 refine wpL.flat ([(zf41 0), (eN ((k % ((224 : Nat) : Int)).toNat)), (zf41 2), (zf41 3), (zf41 4), u15, u35, (eN (decN (flipL (encR (dataL la 24)) ([(k % ((224 : Nat) : Int)).toNat] : List Nat)))), (Value.bool (decB (flipL (encR (dataL la 24)) ([(k % ((224 : Nat) : Int)).toNat] : List Nat))))] ++ (zs zf41 9 20 ++ [(sli b42 0 28 28), (eN ((k % ((224 : Nat) : Int)).toNat)), (sli b47 0 1 1)] ++ (zs zf41 32 5 ++ (us 26)))) (by kernel_rfl) ?_
 refine wpL.op rfl (d_call (xl := [.tmp 29, .tmp 31]) (al := [(sli b42 0 28 28), (sli b47 0 1 1)]) Try.func24 (by kernel_rfl) rfl rfl rfl (ref6Flip_ok (List.replicate 28 0) ([(k % ((224 : Nat) : Int)).toNat] : List Nat) (sli b42 0 28 28) (sli b47 0 1 1) _ (Ps.no (arr_seq a45 l_b42 (Nat.le_refl _))) (Ps.no (arr_seq a50 l_b47 (Nat.le_refl _))) (by have := rep_len 28 0; first | omega | (simp; done) | (simp; omega)) (by first | omega | (simp; done) | (simp; omega)) (fun k_ hk_ => by simp only [List.mem_singleton] at hk_; subst hk_; simp only [List.length_replicate]; omega))) ?_
 rintro u54 w52 f55
 replace f55 := f55.ps
 obtain ⟨f55, o53⟩ := f55
 replace f55 := f55.less (Y := (Or1 b47 (Or1 b42 (Or1 b24 (Old W.heap.size))))) (or1_old a50.lt (or1_old a45.lt (or1_old a27.lt (old_old oW.size))))
 replace h1 := h1.step0 o53
 replace f16 := f16.step0 o53
 replace f23 := f23.step0 o53
 replace f32 := f32.step0 o53
 replace f36 := f36.step0 o53
 replace a27 := a27.step0 o53
 replace a45 := a45.step0 o53
 replace a50 := a50.step0 o53
 replace oW := oW.tail0 o53
 refine wpL.op rfl (d_call (xl := [.tmp 32]) (al := [u54]) Try.func29 (by kernel_rfl) rfl rfl rfl (bchDecode_ok (flipL (List.replicate 28 0) ([(k % ((224 : Nat) : Int)).toNat] : List Nat)) u54 _ (Ps.no f55) (by have := rep_len 28 0; have := flipL_length (List.replicate 28 0) ([(k % ((224 : Nat) : Int)).toNat] : List Nat); first | omega | (simp; done) | (simp; omega)))) ?_
 rintro _ w56 ⟨u58, rfl, f59, o57⟩
 replace f59 := f59.less (Y := (Or1 b47 (Or1 b42 (Or1 b24 (Old W.heap.size))))) (or1_old a50.lt (or1_old a45.lt (or1_old a27.lt (old_old oW.size))))
 replace h1 := h1.step0 o57
 replace f16 := f16.step0 o57
 replace f23 := f23.step0 o57
 replace f32 := f32.step0 o57
 replace f36 := f36.step0 o57
 replace f55 := f55.step0 o57
 replace a27 := a27.step0 o57
 replace a45 := a45.step0 o57
 replace a50 := a50.step0 o57
 replace oW := oW.tail0 o57
 refine wpL.is rfl (d_move rfl) ?_
 refine wpL.flat ([(zf41 0), (eN ((k % ((224 : Nat) : Int)).toNat)), (zf41 2), (zf41 3), (zf41 4), u15, u35, (eN (decN (flipL (encR (dataL la 24)) ([(k % ((224 : Nat) : Int)).toNat] : List Nat)))), (Value.bool (decB (flipL (encR (dataL la 24)) ([(k % ((224 : Nat) : Int)).toNat] : List Nat))))] ++ (zs zf41 9 19 ++ [(Value.tuple #[u58, (eN (decN (flipL (List.replicate 28 0) ([(k % ((224 : Nat) : Int)).toNat] : List Nat)))), (Value.bool (decB (flipL (List.replicate 28 0) ([(k % ((224 : Nat) : Int)).toNat] : List Nat))))]), (sli b42 0 28 28), (eN ((k % ((224 : Nat) : Int)).toNat)), (sli b47 0 1 1), u54, (Value.tuple #[u58, (eN (decN (flipL (List.replicate 28 0) ([(k % ((224 : Nat) : Int)).toNat] : List Nat)))), (Value.bool (decB (flipL (List.replicate 28 0) ([(k % ((224 : Nat) : Int)).toNat] : List Nat))))]), (zf41 34), (zf41 35), (zf41 36)] ++ (us 26))) (by kernel_rfl) ?_
 refine wpL.is rfl (d_extract (v := u58) rfl rfl) ?_
 refine wpL.is rfl (d_extract (v := (eN (decN (flipL (List.replicate 28 0) ([(k % ((224 : Nat) : Int)).toNat] : List Nat))))) rfl rfl) ?_
 refine wpL.is rfl (d_extract (v := (Value.bool (decB (flipL (List.replicate 28 0) ([(k % ((224 : Nat) : Int)).toNat] : List Nat))))) rfl rfl) ?_
 refine wpL.flat ([(zf41 0), (eN ((k % ((224 : Nat) : Int)).toNat)), (zf41 2), (zf41 3), (zf41 4), u15, u35, (eN (decN (flipL (encR (dataL la 24)) ([(k % ((224 : Nat) : Int)).toNat] : List Nat)))), (Value.bool (decB (flipL (encR (dataL la 24)) ([(k % ((224 : Nat) : Int)).toNat] : List Nat))))] ++ (zs zf41 9 19 ++ [(Value.tuple #[u58, (eN (decN (flipL (List.replicate 28 0) ([(k % ((224 : Nat) : Int)).toNat] : List Nat)))), (Value.bool (decB (flipL (List.replicate 28 0) ([(k % ((224 : Nat) : Int)).toNat] : List Nat))))]), (sli b42 0 28 28), (eN ((k % ((224 : Nat) : Int)).toNat)), (sli b47 0 1 1), u54, (Value.tuple #[u58, (eN (decN (flipL (List.replicate 28 0) ([(k % ((224 : Nat) : Int)).toNat] : List Nat)))), (Value.bool (decB (flipL (List.replicate 28 0) ([(k % ((224 : Nat) : Int)).toNat] : List Nat))))]), u58, (eN (decN (flipL (List.replicate 28 0) ([(k % ((224 : Nat) : Int)).toNat] : List Nat)))), (Value.bool (decB (flipL (List.replicate 28 0) ([(k % ((224 : Nat) : Int)).toNat] : List Nat))))] ++ (us 26))) (by kernel_rfl) ?_
 refine wpL.is rfl (d_assign rfl) ?_
 refine wpL.is rfl (d_assign rfl) ?_
 refine wpL.is rfl (d_assign rfl) ?_
 refine wpL.flat ([(zf41 0), (eN ((k % ((224 : Nat) : Int)).toNat)), (zf41 2), (zf41 3), (zf41 4), u15, u35, (eN (decN (flipL (encR (dataL la 24)) ([(k % ((224 : Nat) : Int)).toNat] : List Nat)))), (Value.bool (decB (flipL (encR (dataL la 24)) ([(k % ((224 : Nat) : Int)).toNat] : List Nat)))), u58, (eN (decN (flipL (List.replicate 28 0) ([(k % ((224 : Nat) : Int)).toNat] : List Nat)))), (Value.bool (decB (flipL (List.replicate 28 0) ([(k % ((224 : Nat) : Int)).toNat] : List Nat))))] ++ (zs zf41 12 16 ++ [(Value.tuple #[u58, (eN (decN (flipL (List.replicate 28 0) ([(k % ((224 : Nat) : Int)).toNat] : List Nat)))), (Value.bool (decB (flipL (List.replicate 28 0) ([(k % ((224 : Nat) : Int)).toNat] : List Nat))))]), (sli b42 0 28 28), (eN ((k % ((224 : Nat) : Int)).toNat)), (sli b47 0 1 1), u54, (Value.tuple #[u58, (eN (decN (flipL (List.replicate 28 0) ([(k % ((224 : Nat) : Int)).toNat] : List Nat)))), (Value.bool (decB (flipL (List.replicate 28 0) ([(k % ((224 : Nat) : Int)).toNat] : List Nat))))]), u58, (eN (decN (flipL (List.replicate 28 0) ([(k % ((224 : Nat) : Int)).toNat] : List Nat)))), (Value.bool (decB (flipL (List.replicate 28 0) ([(k % ((224 : Nat) : Int)).toNat] : List Nat))))] ++ (us 26))) (by kernel_rfl) ?_
 refine wpL.done ?_
 have h1_ := one_dec (encR_code (dataL_length la 24)) hk_
 have h2_ := one_dec zero_code hk_
 rw [encR_drop (dataL_length la 24)] at h1_
 refine fr_eq (l' := ([(zf41 0), (eN ((k % ((224 : Nat) : Int)).toNat)), (zf41 2), (zf41 3), (zf41 4), u15, u35, (eN (decN (flipL (encR (dataL la 24)) ([(k % ((224 : Nat) : Int)).toNat] : List Nat)))), (Value.bool true), u58, (eN (decN (flipL (List.replicate 28 0) ([(k % ((224 : Nat) : Int)).toNat] : List Nat)))), (Value.bool true)] ++ (zs zf41 12 16 ++ [(Value.tuple #[u58, (eN (decN (flipL (List.replicate 28 0) ([(k % ((224 : Nat) : Int)).toNat] : List Nat)))), (Value.bool (decB (flipL (List.replicate 28 0) ([(k % ((224 : Nat) : Int)).toNat] : List Nat))))]), (sli b42 0 28 28), (eN ((k % ((224 : Nat) : Int)).toNat)), (sli b47 0 1 1), u54, (Value.tuple #[u58, (eN (decN (flipL (List.replicate 28 0) ([(k % ((224 : Nat) : Int)).toNat] : List Nat)))), (Value.bool (decB (flipL (List.replicate 28 0) ([(k % ((224 : Nat) : Int)).toNat] : List Nat))))]), u58, (eN (decN (flipL (List.replicate 28 0) ([(k % ((224 : Nat) : Int)).toNat] : List Nat)))), (Value.bool (decB (flipL (List.replicate 28 0) ([(k % ((224 : Nat) : Int)).toNat] : List Nat))))] ++ (us 26)))) (Eq.trans (show (([(zf41 0), (eN ((k % ((224 : Nat) : Int)).toNat)), (zf41 2), (zf41 3), (zf41 4), u15, u35, (eN (decN (flipL (encR (dataL la 24)) ([(k % ((224 : Nat) : Int)).toNat] : List Nat)))), (Value.bool (decB (flipL (encR (dataL la 24)) ([(k % ((224 : Nat) : Int)).toNat] : List Nat)))), u58, (eN (decN (flipL (List.replicate 28 0) ([(k % ((224 : Nat) : Int)).toNat] : List Nat)))), (Value.bool (decB (flipL (List.replicate 28 0) ([(k % ((224 : Nat) : Int)).toNat] : List Nat))))] ++ (zs zf41 12 16 ++ [(Value.tuple #[u58, (eN (decN (flipL (List.replicate 28 0) ([(k % ((224 : Nat) : Int)).toNat] : List Nat)))), (Value.bool (decB (flipL (List.replicate 28 0) ([(k % ((224 : Nat) : Int)).toNat] : List Nat))))]), (sli b42 0 28 28), (eN ((k % ((224 : Nat) : Int)).toNat)), (sli b47 0 1 1), u54, (Value.tuple #[u58, (eN (decN (flipL (List.replicate 28 0) ([(k % ((224 : Nat) : Int)).toNat] : List Nat)))), (Value.bool (decB (flipL (List.replicate 28 0) ([(k % ((224 : Nat) : Int)).toNat] : List Nat))))]), u58, (eN (decN (flipL (List.replicate 28 0) ([(k % ((224 : Nat) : Int)).toNat] : List Nat)))), (Value.bool (decB (flipL (List.replicate 28 0) ([(k % ((224 : Nat) : Int)).toNat] : List Nat))))] ++ (us 26))) : List Value) = ([(zf41 0), (eN ((k % ((224 : Nat) : Int)).toNat)), (zf41 2), (zf41 3), (zf41 4), u15, u35, (eN (decN (flipL (encR (dataL la 24)) ([(k % ((224 : Nat) : Int)).toNat] : List Nat)))), (Value.bool true), u58, (eN (decN (flipL (List.replicate 28 0) ([(k % ((224 : Nat) : Int)).toNat] : List Nat)))), (Value.bool (decB (flipL (List.replicate 28 0) ([(k % ((224 : Nat) : Int)).toNat] : List Nat))))] ++ (zs zf41 12 16 ++ [(Value.tuple #[u58, (eN (decN (flipL (List.replicate 28 0) ([(k % ((224 : Nat) : Int)).toNat] : List Nat)))), (Value.bool (decB (flipL (List.replicate 28 0) ([(k % ((224 : Nat) : Int)).toNat] : List Nat))))]), (sli b42 0 28 28), (eN ((k % ((224 : Nat) : Int)).toNat)), (sli b47 0 1 1), u54, (Value.tuple #[u58, (eN (decN (flipL (List.replicate 28 0) ([(k % ((224 : Nat) : Int)).toNat] : List Nat)))), (Value.bool (decB (flipL (List.replicate 28 0) ([(k % ((224 : Nat) : Int)).toNat] : List Nat))))]), u58, (eN (decN (flipL (List.replicate 28 0) ([(k % ((224 : Nat) : Int)).toNat] : List Nat)))), (Value.bool (decB (flipL (List.replicate 28 0) ([(k % ((224 : Nat) : Int)).toNat] : List Nat))))] ++ (us 26))) from reslot ([(zf41 0), (eN ((k % ((224 : Nat) : Int)).toNat)), (zf41 2), (zf41 3), (zf41 4), u15, u35, (eN (decN (flipL (encR (dataL la 24)) ([(k % ((224 : Nat) : Int)).toNat] : List Nat)))), (Value.bool (decB (flipL (encR (dataL la 24)) ([(k % ((224 : Nat) : Int)).toNat] : List Nat)))), u58, (eN (decN (flipL (List.replicate 28 0) ([(k % ((224 : Nat) : Int)).toNat] : List Nat)))), (Value.bool (decB (flipL (List.replicate 28 0) ([(k % ((224 : Nat) : Int)).toNat] : List Nat))))] ++ (zs zf41 12 16 ++ [(Value.tuple #[u58, (eN (decN (flipL (List.replicate 28 0) ([(k % ((224 : Nat) : Int)).toNat] : List Nat)))), (Value.bool (decB (flipL (List.replicate 28 0) ([(k % ((224 : Nat) : Int)).toNat] : List Nat))))]), (sli b42 0 28 28), (eN ((k % ((224 : Nat) : Int)).toNat)), (sli b47 0 1 1), u54, (Value.tuple #[u58, (eN (decN (flipL (List.replicate 28 0) ([(k % ((224 : Nat) : Int)).toNat] : List Nat)))), (Value.bool (decB (flipL (List.replicate 28 0) ([(k % ((224 : Nat) : Int)).toNat] : List Nat))))]), u58, (eN (decN (flipL (List.replicate 28 0) ([(k % ((224 : Nat) : Int)).toNat] : List Nat)))), (Value.bool (decB (flipL (List.replicate 28 0) ([(k % ((224 : Nat) : Int)).toNat] : List Nat))))] ++ (us 26))) 8 (congrArg Value.bool h1_.2.2)) (show (([(zf41 0), (eN ((k % ((224 : Nat) : Int)).toNat)), (zf41 2), (zf41 3), (zf41 4), u15, u35, (eN (decN (flipL (encR (dataL la 24)) ([(k % ((224 : Nat) : Int)).toNat] : List Nat)))), (Value.bool true), u58, (eN (decN (flipL (List.replicate 28 0) ([(k % ((224 : Nat) : Int)).toNat] : List Nat)))), (Value.bool (decB (flipL (List.replicate 28 0) ([(k % ((224 : Nat) : Int)).toNat] : List Nat))))] ++ (zs zf41 12 16 ++ [(Value.tuple #[u58, (eN (decN (flipL (List.replicate 28 0) ([(k % ((224 : Nat) : Int)).toNat] : List Nat)))), (Value.bool (decB (flipL (List.replicate 28 0) ([(k % ((224 : Nat) : Int)).toNat] : List Nat))))]), (sli b42 0 28 28), (eN ((k % ((224 : Nat) : Int)).toNat)), (sli b47 0 1 1), u54, (Value.tuple #[u58, (eN (decN (flipL (List.replicate 28 0) ([(k % ((224 : Nat) : Int)).toNat] : List Nat)))), (Value.bool (decB (flipL (List.replicate 28 0) ([(k % ((224 : Nat) : Int)).toNat] : List Nat))))]), u58, (eN (decN (flipL (List.replicate 28 0) ([(k % ((224 : Nat) : Int)).toNat] : List Nat)))), (Value.bool (decB (flipL (List.replicate 28 0) ([(k % ((224 : Nat) : Int)).toNat] : List Nat))))] ++ (us 26))) : List Value) = ([(zf41 0), (eN ((k % ((224 : Nat) : Int)).toNat)), (zf41 2), (zf41 3), (zf41 4), u15, u35, (eN (decN (flipL (encR (dataL la 24)) ([(k % ((224 : Nat) : Int)).toNat] : List Nat)))), (Value.bool true), u58, (eN (decN (flipL (List.replicate 28 0) ([(k % ((224 : Nat) : Int)).toNat] : List Nat)))), (Value.bool true)] ++ (zs zf41 12 16 ++ [(Value.tuple #[u58, (eN (decN (flipL (List.replicate 28 0) ([(k % ((224 : Nat) : Int)).toNat] : List Nat)))), (Value.bool (decB (flipL (List.replicate 28 0) ([(k % ((224 : Nat) : Int)).toNat] : List Nat))))]), (sli b42 0 28 28), (eN ((k % ((224 : Nat) : Int)).toNat)), (sli b47 0 1 1), u54, (Value.tuple #[u58, (eN (decN (flipL (List.replicate 28 0) ([(k % ((224 : Nat) : Int)).toNat] : List Nat)))), (Value.bool (decB (flipL (List.replicate 28 0) ([(k % ((224 : Nat) : Int)).toNat] : List Nat))))]), u58, (eN (decN (flipL (List.replicate 28 0) ([(k % ((224 : Nat) : Int)).toNat] : List Nat)))), (Value.bool (decB (flipL (List.replicate 28 0) ([(k % ((224 : Nat) : Int)).toNat] : List Nat))))] ++ (us 26))) from reslot ([(zf41 0), (eN ((k % ((224 : Nat) : Int)).toNat)), (zf41 2), (zf41 3), (zf41 4), u15, u35, (eN (decN (flipL (encR (dataL la 24)) ([(k % ((224 : Nat) : Int)).toNat] : List Nat)))), (Value.bool true), u58, (eN (decN (flipL (List.replicate 28 0) ([(k % ((224 : Nat) : Int)).toNat] : List Nat)))), (Value.bool (decB (flipL (List.replicate 28 0) ([(k % ((224 : Nat) : Int)).toNat] : List Nat))))] ++ (zs zf41 12 16 ++ [(Value.tuple #[u58, (eN (decN (flipL (List.replicate 28 0) ([(k % ((224 : Nat) : Int)).toNat] : List Nat)))), (Value.bool (decB (flipL (List.replicate 28 0) ([(k % ((224 : Nat) : Int)).toNat] : List Nat))))]), (sli b42 0 28 28), (eN ((k % ((224 : Nat) : Int)).toNat)), (sli b47 0 1 1), u54, (Value.tuple #[u58, (eN (decN (flipL (List.replicate 28 0) ([(k % ((224 : Nat) : Int)).toNat] : List Nat)))), (Value.bool (decB (flipL (List.replicate 28 0) ([(k % ((224 : Nat) : Int)).toNat] : List Nat))))]), u58, (eN (decN (flipL (List.replicate 28 0) ([(k % ((224 : Nat) : Int)).toNat] : List Nat)))), (Value.bool (decB (flipL (List.replicate 28 0) ([(k % ((224 : Nat) : Int)).toNat] : List Nat))))] ++ (us 26))) 11 (congrArg Value.bool h2_.2.2))) ?_
 refine then_n ?_
 refine forget (fun zf64 => (zs zf64 0 5 ++ [u15, u35, (eN (decN (flipL (encR (dataL la 24)) ([(k % ((224 : Nat) : Int)).toNat] : List Nat)))), (Value.bool true), u58, (eN (decN (flipL (List.replicate 28 0) ([(k % ((224 : Nat) : Int)).toNat] : List Nat)))), (Value.bool true)] ++ (zs zf64 12 25 ++ (us 26)))) (by kernel_rfl) (fun zf64 => ?_)
 refine wpIn_seq ?_
 refine drawn' (O := (Or1 b47 (Or1 b42 (Or1 b24 No)))) (n := 27) [0, 1, 3, 7, 15, 31, 63, 127, 63, 319, 1023, 2047, 4095, 8191, 16383, 32767, 65535, 131071, 262143, 524287, 1048575, 2097151, 1048575, 5242879, 16777215, 33554431, 67108863] [(0, 37), (1, 38), (2, 39), (3, 40), (4, 41), (5, 42), (6, 43), (7, 44), (8, 45), (9, 46), (10, 47), (11, 48), (12, 49), (13, 50), (14, 51), (15, 52), (16, 53), (17, 54), (18, 55), (19, 56), (20, 57), (21, 58), (22, 59), (23, 60), (24, 61), (25, 62), (26, 4)] [0, 1, 2, 3, 4, 5, 6, 7, 8, 9, 10, 11, 12, 13, 14, 15, 16, 17, 18, 19, 20, 21, 22, 23, 24, 25, 26] [] (fun i_ => ([RF.is (Or1 b47 (Or1 b42 (Or1 b24 No))) (Value.bool true), RF.is (Or1 b47 (Or1 b42 (Or1 b24 No))) (Value.bool true), RF.is (Or1 b47 (Or1 b42 (Or1 b24 No))) (eN (decN (flipL (encR (dataL la 24)) ([(k % ((224 : Nat) : Int)).toNat] : List Nat)))), RF.is (Or1 b47 (Or1 b42 (Or1 b24 No))) (Value.bool true), RF.is (Or1 b47 (Or1 b42 (Or1 b24 No))) (Value.bool true), RF.is (Or1 b47 (Or1 b42 (Or1 b24 No))) (Value.bool true), RF.is (Or1 b47 (Or1 b42 (Or1 b24 No))) u35, RF.is (Or1 b47 (Or1 b42 (Or1 b24 No))) (Value.string (strOf (decD (flipL (encR (dataL la 24)) ([(k % ((224 : Nat) : Int)).toNat] : List Nat))))), RF.is (Or1 b47 (Or1 b42 (Or1 b24 No))) u15, RF.is (Or1 b47 (Or1 b42 (Or1 b24 No))) (Value.string (strOf (dataL la 24))), RF.is (Or1 b47 (Or1 b42 (Or1 b24 No))) (Value.bool true), RF.is (Or1 b47 (Or1 b42 (Or1 b24 No))) (Value.bool true), RF.is (Or1 b47 (Or1 b42 (Or1 b24 No))) (Value.bool true), RF.is (Or1 b47 (Or1 b42 (Or1 b24 No))) (Value.bool true), RF.is (Or1 b47 (Or1 b42 (Or1 b24 No))) (Value.bool true), RF.is (Or1 b47 (Or1 b42 (Or1 b24 No))) (Value.bool true), RF.is (Or1 b47 (Or1 b42 (Or1 b24 No))) (eN (decN (flipL (List.replicate 28 0) ([(k % ((224 : Nat) : Int)).toNat] : List Nat)))), RF.is (Or1 b47 (Or1 b42 (Or1 b24 No))) (Value.bool true), RF.is (Or1 b47 (Or1 b42 (Or1 b24 No))) (Value.bool true), RF.is (Or1 b47 (Or1 b42 (Or1 b24 No))) (Value.bool true), RF.is (Or1 b47 (Or1 b42 (Or1 b24 No))) u58, RF.is (Or1 b47 (Or1 b42 (Or1 b24 No))) (Value.string (strOf (decD (flipL (List.replicate 28 0) ([(k % ((224 : Nat) : Int)).toNat] : List Nat))))), RF.ps (Or1 b47 (Or1 b42 (Or1 b24 No))) (Or1 b47 (Or1 b42 (Or1 b24 (Old W.heap.size)))) (Seq kB (List.replicate 24 0)) (or1_mono (or1_mono (or1_mono no_any))), RF.is (Or1 b47 (Or1 b42 (Or1 b24 No))) (Value.string (strOf (List.replicate 24 0))), RF.is (Or1 b47 (Or1 b42 (Or1 b24 No))) (Value.bool true), RF.is (Or1 b47 (Or1 b42 (Or1 b24 No))) (Value.bool true), RF.is (Or1 b47 (Or1 b42 (Or1 b24 No))) (Value.bool true)] : List (RF (Or1 b47 (Or1 b42 (Or1 b24 No))))).getD i_ (RF.any (Or1 b47 (Or1 b42 (Or1 b24 No))))) (fun _ w_ => Arr 3 b24 (([(k % ((224 : Nat) : Int)).toNat] : List Nat).map eN) w_ ∧ Arr 5 b42 ((List.replicate 28 0).map eB) w_ ∧ Arr 3 b47 (([(k % ((224 : Nat) : Int)).toNat] : List Nat).map eN) w_) (fun v65 => ([(zf64 0), (zf64 1), (zf64 2), (zf64 3), (v65 26), u15, u35, (eN (decN (flipL (encR (dataL la 24)) ([(k % ((224 : Nat) : Int)).toNat] : List Nat)))), (Value.bool true), u58, (eN (decN (flipL (List.replicate 28 0) ([(k % ((224 : Nat) : Int)).toNat] : List Nat)))), (Value.bool true)] ++ (zs zf64 12 25 ++ [(v65 0), (v65 1), (v65 2), (v65 3), (v65 4), (v65 5), (v65 6), (v65 7), (v65 8), (v65 9), (v65 10), (v65 11), (v65 12), (v65 13), (v65 14), (v65 15), (v65 16), (v65 17), (v65 18), (v65 19), (v65 20), (v65 21), (v65 22), (v65 23), (v65 24), (v65 25)]))) s_mx (by kernel_rfl) rfl (by kernel_rfl) (by rfl) (fun v_ => by kernel_rfl) (fun _ => fun w_ w2_ h ho => by obtain ⟨r_a27, r_a45, r_a50⟩ := h; exact ⟨r_a27.step0 ho, r_a45.step0 ho, r_a50.step0 ho⟩) ⟨a27, a45, a50⟩ ?_ ?_ ?_
 ·
  refine ls_cons ?_ ?_
  ·
   intro v65 lo hi w_ k_ hO hd _ _ hk_ _ hR hold
   obtain ⟨r_a27, r_a45, r_a50⟩ := hR
   clear hd hold
   refine ⟨_, rfl, gd rfl ?_⟩
   exact Does.is (d_move rfl)
  refine ls_cons ?_ ?_
  ·
   intro v65 lo hi w_ k_ hO hd _ _ hk_ _ hR hold
   obtain ⟨r_a27, r_a45, r_a50⟩ := hR
   have e0 : v65 0 = (Value.bool true) := hd 0 (by kernel_rfl)
   clear hd hold
   refine ⟨_, rfl, gd rfl ?_⟩
   exact Does.is (d_move (v := (Value.bool true)) e0)
  refine ls_cons ?_ ?_
  ·
   intro v65 lo hi w_ k_ hO hd _ _ hk_ _ hR hold
   obtain ⟨r_a27, r_a45, r_a50⟩ := hR
   have e1 : v65 1 = (Value.bool true) := hd 1 (by kernel_rfl)
   clear hd hold
   refine ⟨_, rfl, gd_on rfl rfl rfl (Nat.le_of_ble_eq_true rfl) e1 ?_⟩
   exact Does.is (d_move rfl)
  refine ls_cons ?_ ?_
  ·
   intro v65 lo hi w_ k_ hO hd _ _ hk_ _ hR hold
   obtain ⟨r_a27, r_a45, r_a50⟩ := hR
   have e1 : v65 1 = (Value.bool true) := hd 1 (by kernel_rfl)
   have e2 : v65 2 = (eN (decN (flipL (encR (dataL la 24)) ([(k % ((224 : Nat) : Int)).toNat] : List Nat)))) := hd 2 (by kernel_rfl)
   clear hd hold
   refine ⟨_, rfl, gd_on rfl rfl rfl (Nat.le_of_ble_eq_true rfl) e1 ?_⟩
   exact Does.is (n_eql (a := (decN (flipL (encR (dataL la 24)) ([(k % ((224 : Nat) : Int)).toNat] : List Nat)))) (b := 1) e2 rfl (decide_eq_true h1_.2.1))
  refine ls_cons ?_ ?_
  ·
   intro v65 lo hi w_ k_ hO hd _ _ hk_ _ hR hold
   obtain ⟨r_a27, r_a45, r_a50⟩ := hR
   have e1 : v65 1 = (Value.bool true) := hd 1 (by kernel_rfl)
   have e3 : v65 3 = (Value.bool true) := hd 3 (by kernel_rfl)
   clear hd hold
   refine ⟨_, rfl, gd rfl ?_⟩
   exact Does.is (d_pick (b := true) (v := (Value.bool true)) e1 e3)
  refine ls_cons ?_ ?_
  ·
   intro v65 lo hi w_ k_ hO hd _ _ hk_ _ hR hold
   obtain ⟨r_a27, r_a45, r_a50⟩ := hR
   have e4 : v65 4 = (Value.bool true) := hd 4 (by kernel_rfl)
   clear hd hold
   refine ⟨_, rfl, gd rfl ?_⟩
   exact Does.is (d_move (v := (Value.bool true)) e4)
  refine ls_cons ?_ ?_
  ·
   intro v65 lo hi w_ k_ hO hd _ _ hk_ _ hR hold
   obtain ⟨r_a27, r_a45, r_a50⟩ := hR
   have e5 : v65 5 = (Value.bool true) := hd 5 (by kernel_rfl)
   clear hd hold
   refine ⟨_, rfl, gd_on rfl rfl rfl (Nat.le_of_ble_eq_true rfl) e5 ?_⟩
   exact Does.is (d_move rfl)
  refine ls_cons ?_ ?_
  ·
   intro v65 lo hi w_ k_ hO hd _ _ hk_ _ hR hold
   obtain ⟨r_a27, r_a45, r_a50⟩ := hR
   have e5 : v65 5 = (Value.bool true) := hd 5 (by kernel_rfl)
   have e6 : v65 6 = u35 := hd 6 (by kernel_rfl)
   clear hd hold
   refine ⟨_, rfl, gd_on rfl rfl rfl (Nat.le_of_ble_eq_true rfl) e5 ?_⟩
   exact Does.is (d_str Try.underlying22 Try.underlying5 Try.underlying9 e6 (f36.step hO (or1_mono (or1_mono (or1_mono no_any)))))
  refine ls_cons ?_ ?_
  ·
   intro v65 lo hi w_ k_ hO hd _ _ hk_ _ hR hold
   obtain ⟨r_a27, r_a45, r_a50⟩ := hR
   have e5 : v65 5 = (Value.bool true) := hd 5 (by kernel_rfl)
   clear hd hold
   refine ⟨_, rfl, gd_on rfl rfl rfl (Nat.le_of_ble_eq_true rfl) e5 ?_⟩
   exact Does.is (d_move rfl)
  refine ls_cons ?_ ?_
  ·
   intro v65 lo hi w_ k_ hO hd _ _ hk_ _ hR hold
   obtain ⟨r_a27, r_a45, r_a50⟩ := hR
   have e5 : v65 5 = (Value.bool true) := hd 5 (by kernel_rfl)
   have e8 : v65 8 = u15 := hd 8 (by kernel_rfl)
   clear hd hold
   refine ⟨_, rfl, gd_on rfl rfl rfl (Nat.le_of_ble_eq_true rfl) e5 ?_⟩
   exact Does.is (d_str Try.underlying22 Try.underlying5 Try.underlying9 e8 (f16.step hO (or1_mono (or1_mono (or1_mono no_any)))))
  refine ls_cons ?_ ?_
  ·
   intro v65 lo hi w_ k_ hO hd _ _ hk_ _ hR hold
   obtain ⟨r_a27, r_a45, r_a50⟩ := hR
   have e5 : v65 5 = (Value.bool true) := hd 5 (by kernel_rfl)
   have e7 : v65 7 = (Value.string (strOf (decD (flipL (encR (dataL la 24)) ([(k % ((224 : Nat) : Int)).toNat] : List Nat))))) := hd 7 (by kernel_rfl)
   have e9 : v65 9 = (Value.string (strOf (dataL la 24))) := hd 9 (by kernel_rfl)
   clear hd hold
   refine ⟨_, rfl, gd_on rfl rfl rfl (Nat.le_of_ble_eq_true rfl) e5 ?_⟩
   exact Does.is (d_seql (a := (decD (flipL (encR (dataL la 24)) ([(k % ((224 : Nat) : Int)).toNat] : List Nat)))) (c := (dataL la 24)) e7 e9 (decide_eq_true h1_.1))
  refine ls_cons ?_ ?_
  ·
   intro v65 lo hi w_ k_ hO hd _ _ hk_ _ hR hold
   obtain ⟨r_a27, r_a45, r_a50⟩ := hR
   have e10 : v65 10 = (Value.bool true) := hd 10 (by kernel_rfl)
   have e5 : v65 5 = (Value.bool true) := hd 5 (by kernel_rfl)
   clear hd hold
   refine ⟨_, rfl, gd rfl ?_⟩
   exact Does.is (d_pick (b := true) (v := (Value.bool true)) e5 e10)
  refine ls_cons ?_ ?_
  ·
   intro v65 lo hi w_ k_ hO hd _ _ hk_ _ hR hold
   obtain ⟨r_a27, r_a45, r_a50⟩ := hR
   have e11 : v65 11 = (Value.bool true) := hd 11 (by kernel_rfl)
   clear hd hold
   refine ⟨_, rfl, gd rfl ?_⟩
   exact Does.is (d_move (v := (Value.bool true)) e11)
  refine ls_cons ?_ ?_
  ·
   intro v65 lo hi w_ k_ hO hd _ _ hk_ _ hR hold
   obtain ⟨r_a27, r_a45, r_a50⟩ := hR
   have e12 : v65 12 = (Value.bool true) := hd 12 (by kernel_rfl)
   clear hd hold
   refine ⟨_, rfl, gd_on rfl rfl rfl (Nat.le_of_ble_eq_true rfl) e12 ?_⟩
   exact Does.is (d_move rfl)
  refine ls_cons ?_ ?_
  ·
   intro v65 lo hi w_ k_ hO hd _ _ hk_ _ hR hold
   obtain ⟨r_a27, r_a45, r_a50⟩ := hR
   have e12 : v65 12 = (Value.bool true) := hd 12 (by kernel_rfl)
   have e13 : v65 13 = (Value.bool true) := hd 13 (by kernel_rfl)
   clear hd hold
   refine ⟨_, rfl, gd rfl ?_⟩
   exact Does.is (d_pick (b := true) (v := (Value.bool true)) e12 e13)
  refine ls_cons ?_ ?_
  ·
   intro v65 lo hi w_ k_ hO hd _ _ hk_ _ hR hold
   obtain ⟨r_a27, r_a45, r_a50⟩ := hR
   have e14 : v65 14 = (Value.bool true) := hd 14 (by kernel_rfl)
   clear hd hold
   refine ⟨_, rfl, gd rfl ?_⟩
   exact Does.is (d_move (v := (Value.bool true)) e14)
  refine ls_cons ?_ ?_
  ·
   intro v65 lo hi w_ k_ hO hd _ _ hk_ _ hR hold
   obtain ⟨r_a27, r_a45, r_a50⟩ := hR
   have e15 : v65 15 = (Value.bool true) := hd 15 (by kernel_rfl)
   clear hd hold
   refine ⟨_, rfl, gd_on rfl rfl rfl (Nat.le_of_ble_eq_true rfl) e15 ?_⟩
   exact Does.is (d_move rfl)
  refine ls_cons ?_ ?_
  ·
   intro v65 lo hi w_ k_ hO hd _ _ hk_ _ hR hold
   obtain ⟨r_a27, r_a45, r_a50⟩ := hR
   have e15 : v65 15 = (Value.bool true) := hd 15 (by kernel_rfl)
   have e16 : v65 16 = (eN (decN (flipL (List.replicate 28 0) ([(k % ((224 : Nat) : Int)).toNat] : List Nat)))) := hd 16 (by kernel_rfl)
   clear hd hold
   refine ⟨_, rfl, gd_on rfl rfl rfl (Nat.le_of_ble_eq_true rfl) e15 ?_⟩
   exact Does.is (n_eql (a := (decN (flipL (List.replicate 28 0) ([(k % ((224 : Nat) : Int)).toNat] : List Nat)))) (b := 1) e16 rfl (decide_eq_true h2_.2.1))
  refine ls_cons ?_ ?_
  ·
   intro v65 lo hi w_ k_ hO hd _ _ hk_ _ hR hold
   obtain ⟨r_a27, r_a45, r_a50⟩ := hR
   have e15 : v65 15 = (Value.bool true) := hd 15 (by kernel_rfl)
   have e17 : v65 17 = (Value.bool true) := hd 17 (by kernel_rfl)
   clear hd hold
   refine ⟨_, rfl, gd rfl ?_⟩
   exact Does.is (d_pick (b := true) (v := (Value.bool true)) e15 e17)
  refine ls_cons ?_ ?_
  ·
   intro v65 lo hi w_ k_ hO hd _ _ hk_ _ hR hold
   obtain ⟨r_a27, r_a45, r_a50⟩ := hR
   have e18 : v65 18 = (Value.bool true) := hd 18 (by kernel_rfl)
   clear hd hold
   refine ⟨_, rfl, gd rfl ?_⟩
   exact Does.is (d_move (v := (Value.bool true)) e18)
  refine ls_cons ?_ ?_
  ·
   intro v65 lo hi w_ k_ hO hd _ _ hk_ _ hR hold
   obtain ⟨r_a27, r_a45, r_a50⟩ := hR
   have e19 : v65 19 = (Value.bool true) := hd 19 (by kernel_rfl)
   clear hd hold
   refine ⟨_, rfl, gd_on rfl rfl rfl (Nat.le_of_ble_eq_true rfl) e19 ?_⟩
   exact Does.is (d_move rfl)
  refine ls_cons ?_ ?_
  ·
   intro v65 lo hi w_ k_ hO hd _ _ hk_ _ hR hold
   obtain ⟨r_a27, r_a45, r_a50⟩ := hR
   have e19 : v65 19 = (Value.bool true) := hd 19 (by kernel_rfl)
   have e20 : v65 20 = u58 := hd 20 (by kernel_rfl)
   clear hd hold
   refine ⟨_, rfl, gd_on rfl rfl rfl (Nat.le_of_ble_eq_true rfl) e19 ?_⟩
   exact Does.is (d_str Try.underlying22 Try.underlying5 Try.underlying9 e20 (f59.step hO (or1_mono (or1_mono (or1_mono no_any)))))
  refine ls_cons ?_ ?_
  ·
   intro v65 lo hi w_ k_ hO hd _ _ hk_ _ hR hold
   obtain ⟨r_a27, r_a45, r_a50⟩ := hR
   have e19 : v65 19 = (Value.bool true) := hd 19 (by kernel_rfl)
   clear hd hold
   refine ⟨_, rfl, gd_on rfl rfl rfl (Nat.le_of_ble_eq_true rfl) e19 ?_⟩
   refine Does.mono (d_make1 (n := 24) Try.underlying22 s_ti5 rfl rfl (by omega) (by omega) rfl) (fun u w' h => ⟨(made_zero h).1.less (or1_old r_a50.lt (or1_old r_a45.lt (or1_old r_a27.lt (old_old (Nat.le_trans oW.size hO.size))))), (made_zero h).2⟩)
  refine ls_cons ?_ ?_
  ·
   intro v65 lo hi w_ k_ hO hd _ _ hk_ _ hR hold
   obtain ⟨r_a27, r_a45, r_a50⟩ := hR
   have e19 : v65 19 = (Value.bool true) := hd 19 (by kernel_rfl)
   have d22 : Ps (Or1 b47 (Or1 b42 (Or1 b24 (Old W.heap.size)))) (Seq kB (List.replicate 24 0) (v65 22)) w_ := hd 22 (by kernel_rfl)
   clear hd hold
   refine ⟨_, rfl, gd_on rfl rfl rfl (Nat.le_of_ble_eq_true rfl) e19 ?_⟩
   exact Does.is (d_str Try.underlying22 Try.underlying5 Try.underlying9 rfl d22)
  refine ls_cons ?_ ?_
  ·
   intro v65 lo hi w_ k_ hO hd _ _ hk_ _ hR hold
   obtain ⟨r_a27, r_a45, r_a50⟩ := hR
   have e19 : v65 19 = (Value.bool true) := hd 19 (by kernel_rfl)
   have e21 : v65 21 = (Value.string (strOf (decD (flipL (List.replicate 28 0) ([(k % ((224 : Nat) : Int)).toNat] : List Nat))))) := hd 21 (by kernel_rfl)
   have e23 : v65 23 = (Value.string (strOf (List.replicate 24 0))) := hd 23 (by kernel_rfl)
   clear hd hold
   refine ⟨_, rfl, gd_on rfl rfl rfl (Nat.le_of_ble_eq_true rfl) e19 ?_⟩
   exact Does.is (d_seql (a := (decD (flipL (List.replicate 28 0) ([(k % ((224 : Nat) : Int)).toNat] : List Nat)))) (c := (List.replicate 24 0)) e21 e23 (decide_eq_true (by rw [h2_.1]; rfl)))
  refine ls_cons ?_ ?_
  ·
   intro v65 lo hi w_ k_ hO hd _ _ hk_ _ hR hold
   obtain ⟨r_a27, r_a45, r_a50⟩ := hR
   have e19 : v65 19 = (Value.bool true) := hd 19 (by kernel_rfl)
   have e24 : v65 24 = (Value.bool true) := hd 24 (by kernel_rfl)
   clear hd hold
   refine ⟨_, rfl, gd rfl ?_⟩
   exact Does.is (d_pick (b := true) (v := (Value.bool true)) e19 e24)
  refine ls_cons ?_ ?_
  ·
   intro v65 lo hi w_ k_ hO hd _ _ hk_ _ hR hold
   obtain ⟨r_a27, r_a45, r_a50⟩ := hR
   have e25 : v65 25 = (Value.bool true) := hd 25 (by kernel_rfl)
   clear hd hold
   refine ⟨_, rfl, gd rfl ?_⟩
   exact Does.is (d_assign (v := (Value.bool true)) e25)
  exact ls_nil
 ·
  exact ms_nil
 intro v65 lo_ hi_ w66 o67 hd iv_ hR
 have e0 : v65 0 = (Value.bool true) := hd 0 (by decide)
 have e1 : v65 1 = (Value.bool true) := hd 1 (by decide)
 have e2 : v65 2 = (eN (decN (flipL (encR (dataL la 24)) ([(k % ((224 : Nat) : Int)).toNat] : List Nat)))) := hd 2 (by decide)
 have e3 : v65 3 = (Value.bool true) := hd 3 (by decide)
 have e4 : v65 4 = (Value.bool true) := hd 4 (by decide)
 have e5 : v65 5 = (Value.bool true) := hd 5 (by decide)
 have e6 : v65 6 = u35 := hd 6 (by decide)
 have e7 : v65 7 = (Value.string (strOf (decD (flipL (encR (dataL la 24)) ([(k % ((224 : Nat) : Int)).toNat] : List Nat))))) := hd 7 (by decide)
 have e8 : v65 8 = u15 := hd 8 (by decide)
 have e9 : v65 9 = (Value.string (strOf (dataL la 24))) := hd 9 (by decide)
 have e10 : v65 10 = (Value.bool true) := hd 10 (by decide)
 have e11 : v65 11 = (Value.bool true) := hd 11 (by decide)
 have e12 : v65 12 = (Value.bool true) := hd 12 (by decide)
 have e13 : v65 13 = (Value.bool true) := hd 13 (by decide)
 have e14 : v65 14 = (Value.bool true) := hd 14 (by decide)
 have e15 : v65 15 = (Value.bool true) := hd 15 (by decide)
 have e16 : v65 16 = (eN (decN (flipL (List.replicate 28 0) ([(k % ((224 : Nat) : Int)).toNat] : List Nat)))) := hd 16 (by decide)
 have e17 : v65 17 = (Value.bool true) := hd 17 (by decide)
 have e18 : v65 18 = (Value.bool true) := hd 18 (by decide)
 have e19 : v65 19 = (Value.bool true) := hd 19 (by decide)
 have e20 : v65 20 = u58 := hd 20 (by decide)
 have e21 : v65 21 = (Value.string (strOf (decD (flipL (List.replicate 28 0) ([(k % ((224 : Nat) : Int)).toNat] : List Nat))))) := hd 21 (by decide)
 have e23 : v65 23 = (Value.string (strOf (List.replicate 24 0))) := hd 23 (by decide)
 have e24 : v65 24 = (Value.bool true) := hd 24 (by decide)
 have e25 : v65 25 = (Value.bool true) := hd 25 (by decide)
 have e26 : v65 26 = (Value.bool true) := hd 26 (by decide)
 have f_v65_22 : Ps (Or1 b47 (Or1 b42 (Or1 b24 (Old W.heap.size)))) (Seq kB (List.replicate 24 0) (v65 22)) w66 := hd 22 (by decide)
 clear hd iv_ lo_ hi_
 refine fr_eq (l' := ([(zf64 0), (zf64 1), (zf64 2), (zf64 3), (Value.bool true), u15, u35, (eN (decN (flipL (encR (dataL la 24)) ([(k % ((224 : Nat) : Int)).toNat] : List Nat)))), (Value.bool true), u58, (eN (decN (flipL (List.replicate 28 0) ([(k % ((224 : Nat) : Int)).toNat] : List Nat)))), (Value.bool true)] ++ (zs zf64 12 25 ++ [(Value.bool true), (Value.bool true), (eN (decN (flipL (encR (dataL la 24)) ([(k % ((224 : Nat) : Int)).toNat] : List Nat)))), (Value.bool true), (Value.bool true), (Value.bool true), u35, (Value.string (strOf (decD (flipL (encR (dataL la 24)) ([(k % ((224 : Nat) : Int)).toNat] : List Nat))))), u15, (Value.string (strOf (dataL la 24))), (Value.bool true), (Value.bool true), (Value.bool true), (Value.bool true), (Value.bool true), (Value.bool true), (eN (decN (flipL (List.replicate 28 0) ([(k % ((224 : Nat) : Int)).toNat] : List Nat)))), (Value.bool true), (Value.bool true), (Value.bool true), u58, (Value.string (strOf (decD (flipL (List.replicate 28 0) ([(k % ((224 : Nat) : Int)).toNat] : List Nat))))), (v65 22), (Value.string (strOf (List.replicate 24 0))), (Value.bool true), (Value.bool true)]))) (by rw [e0, e1, e2, e3, e4, e5, e6, e7, e8, e9, e10, e11, e12, e13, e14, e15, e16, e17, e18, e19, e20, e21, e23, e24, e25, e26] <;> rfl) ?_
 clear e0 e1 e2 e3 e4 e5 e6 e7 e8 e9 e10 e11 e12 e13 e14 e15 e16 e17 e18 e19 e20 e21 e23 e24 e25 e26
 replace h1 := h1.step o67 (or1_mono (or1_mono (or1_mono no_any)))
 replace f16 := f16.step o67 (or1_mono (or1_mono (or1_mono no_any)))
 replace f23 := f23.step o67 (or1_mono (or1_mono (or1_mono no_any)))
 replace f32 := f32.step o67 (or1_mono (or1_mono (or1_mono no_any)))
 replace f36 := f36.step o67 (or1_mono (or1_mono (or1_mono no_any)))
 replace f55 := f55.step o67 (or1_mono (or1_mono (or1_mono no_any)))
 replace f59 := f59.step o67 (or1_mono (or1_mono (or1_mono no_any)))
 obtain ⟨xr_a27, xr_a45, xr_a50⟩ := hR
 replace a27 : Arr 3 b24 (([(k % ((224 : Nat) : Int)).toNat] : List Nat).map eN) w66 := xr_a27
 replace a45 : Arr 5 b42 ((List.replicate 28 0).map eB) w66 := xr_a45
 replace a50 : Arr 3 b47 (([(k % ((224 : Nat) : Int)).toNat] : List Nat).map eN) w66 := xr_a50
 clear xr_a27 xr_a45 xr_a50
 replace oW := oW.tail o67 (tl_new g_oW_b47 (tl_new g_oW_b42 (tl_new g_oW_b24 tl_no)))
 refine then_n ?_
 refine forget (fun zf68 => ([(zf68 0), (zf68 1), (zf68 2), (zf68 3), (Value.bool true)] ++ (zs zf68 5 58))) (by kernel_rfl) (fun zf68 => ?_)
 refine wpIn_ret ?_
 refine leave0 (v := (Value.bool true)) (res1 Try.results10 rfl) ?_
 exact ⟨rfl, oW⟩

end Go.Proofs.YtkppgdbpadaegaaF
