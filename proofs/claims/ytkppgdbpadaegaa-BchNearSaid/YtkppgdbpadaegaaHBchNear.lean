import Derived.Test.YtkppgdbpadaegaaFl
import Derived.Test.YtkppgdbpadaegaaTy
import Derived.Test.YtkppgdbpadaegaaHutil
import Derived.Test.YtkppgdbpadaegaaMj
set_option linter.unusedVariables false
set_option linter.unusedSimpArgs false
namespace Go.Proofs.YtkppgdbpadaegaaF
open Go Go.Shelf Go.Proofs.YtkppgdbpadaegaaS Ram
set_option maxRecDepth 20000 in
set_option maxHeartbeats 1000000 in
theorem bchNear_law (la : List UInt8) (ll : List Int) (u1 u2 : Value) (W : World) (h1 : Ps No (Seq kB la u1) W) (h2 : Ps No (Seq kI ll u2) W) (g1 : la.length ≤ 140737488351232) (g2 : ll.length ≤ 140737488351232) :
    CW Try.prog 11 #[u1, u2] W (Rt (RIs (.bool true) W)) := by
 have oW : Only No W W := Only.refl _ _
 refine enter (al := [u1, u2]) (k := 65) (l := ([u1, u2] ++ (us 65))) Try.func11 rfl Try.ntmps11 rfl rfl ?_
 refine wpIn_seq ?_
 refine plain ?_
 refine wpL.is rfl (d_assign rfl) ?_
 refine wpL.flat ([u1, u2, undef, undef, (Value.bool false)] ++ (us 62)) (by kernel_rfl) ?_
 refine wpL.done ?_
 refine then_n ?_
 refine wpIn_seq ?_
 refine wpIn_seq ?_
 refine plain ?_
 refine wpL.op rfl (d_call (xl := []) (al := []) Try.func13 (by kernel_rfl) rfl rfl rfl (l4known_ok _)) ?_
 rintro _ w11 ⟨rfl, o12⟩
 replace h1 := h1.step0 o12
 replace h2 := h2.step0 o12
 replace oW := oW.tail0 o12
 refine wpL.is rfl (d_not rfl rfl) ?_
 refine wpL.flat ([u1, u2, undef, undef, (Value.bool false)] ++ (us 6 ++ [(Value.bool true), (Value.bool false)] ++ (us 54))) (by kernel_rfl) ?_
 refine wpL.done ?_
 refine then_n ?_
 refine cond_f rfl ?_
 refine wpIn_skip ?_
 refine then_n ?_
 refine wpIn_seq ?_
 refine plain ?_
 refine wpL.is rfl (d_move rfl) ?_
 refine wpL.op rfl (d_call (xl := [.tmp 13, .const (.int .i64 24)]) (al := [u1, (eN 24)]) Try.func14 (by kernel_rfl) rfl rfl rfl (l4Data_ok la 24 u1 _ (Ps.no h1) (by omega))) ?_
 rintro u15 w13 f16
 replace f16 := f16.ps
 obtain ⟨f16, o14⟩ := f16
 replace f16 := f16.less (Y := (Old W.heap.size)) (old_old oW.size)
 replace h1 := h1.step0 o14
 replace h2 := h2.step0 o14
 replace oW := oW.tail0 o14
 refine wpL.is rfl (d_assign rfl) ?_
 refine wpL.flat ([u1, u2, undef, undef, (Value.bool false), u15] ++ (us 5 ++ [(Value.bool true), (Value.bool false), u1, u15] ++ (us 52))) (by kernel_rfl) ?_
 refine wpL.done ?_
 refine then_n ?_
 refine wpIn_seq ?_
 refine plain ?_
 refine wpL.is rfl (d_move rfl) ?_
 refine wpL.op rfl (d_call (xl := [.tmp 15]) (al := [u15]) Try.func15 (by kernel_rfl) rfl rfl rfl (bchEncode_ok (dataL la 24) u15 _ (Ps.no f16) (by have := dataL_length la 24; first | omega | (simp; done) | (simp; omega)))) ?_
 rintro u19 w17 f20
 replace f20 := f20.ps
 obtain ⟨f20, o18⟩ := f20
 replace f20 := f20.less (Y := (Old W.heap.size)) (old_old oW.size)
 replace h1 := h1.step0 o18
 replace h2 := h2.step0 o18
 replace f16 := f16.step0 o18
 replace oW := oW.tail0 o18
 refine wpL.is rfl (d_assign rfl) ?_
 refine wpL.flat ([u1, u2, undef, undef, (Value.bool false), u15, u19, undef, undef, undef, undef, (Value.bool true), (Value.bool false), u1, u15, u15, u19] ++ (us 50)) (by kernel_rfl) ?_
 refine wpL.done ?_
 refine then_n ?_
 refine forget (fun zf21 => ([(zf21 0), u2, (zf21 2), (zf21 3), (zf21 4), u15, u19] ++ (zs zf21 7 60))) (by kernel_rfl) (fun zf21 => ?_)
 refine wpIn_seq ?_
 refine plain ?_
 refine wpL.is rfl (d_move rfl) ?_
 refine wpL.op rfl (d_call (xl := [.tmp 17, .const (.int .i64 224), .const (.int .i64 12)]) (al := [u2, (eN 224), (eN 12)]) Try.func25 (by kernel_rfl) rfl rfl rfl (l4Places_ok ll 224 12 u2 _ (Ps.no h2) (by omega) (by omega) (by omega) (by omega))) ?_
 rintro u24 w22 f25
 replace f25 := f25.ps
 obtain ⟨f25, o23⟩ := f25
 replace f25 := f25.less (Y := (Old W.heap.size)) (old_old oW.size)
 replace h1 := h1.step0 o23
 replace h2 := h2.step0 o23
 replace f16 := f16.step0 o23
 replace f20 := f20.step0 o23
 replace oW := oW.tail0 o23
 refine wpL.is rfl (d_assign rfl) ?_
 refine wpL.flat ([(zf21 0), u2, (zf21 2), (zf21 3), (zf21 4), u15, u19, u24] ++ (zs zf21 8 9 ++ [u2, u24] ++ (zs zf21 19 48))) (by kernel_rfl) ?_
 refine wpL.done ?_
 refine then_n ?_
 refine wpIn_seq ?_
 refine plain ?_
 refine wpL.is rfl (d_move rfl) ?_
 refine wpL.is rfl (d_move rfl) ?_
 refine wpL.op rfl (d_call (xl := [.tmp 20, .tmp 21]) (al := [u19, u24]) Try.func24 (by kernel_rfl) rfl rfl rfl (ref6Flip_ok (encR (dataL la 24)) (placesL ll 224 12) u19 u24 _ (Ps.no f20) (Ps.no f25) (by have := dataL_length la 24; have := encR_len (dataL la 24); first | omega | (simp; done) | (simp; omega)) (by have := places_le ll 224 12; first | omega | (simp; done) | (simp; omega)) (in_place (encR_length (dataL_length _ _)) _ _))) ?_
 rintro u28 w26 f29
 replace f29 := f29.ps
 obtain ⟨f29, o27⟩ := f29
 replace f29 := f29.less (Y := (Old W.heap.size)) (old_old oW.size)
 replace h1 := h1.step0 o27
 replace h2 := h2.step0 o27
 replace f16 := f16.step0 o27
 replace f20 := f20.step0 o27
 replace f25 := f25.step0 o27
 replace oW := oW.tail0 o27
 refine wpL.flat ([(zf21 0), u2, (zf21 2), (zf21 3), (zf21 4), u15, u19, u24] ++ (zs zf21 8 9 ++ [u2, u24, (zf21 19), u19, u24, u28] ++ (zs zf21 23 44))) (by kernel_rfl) ?_
 refine wpL.op rfl (d_call (xl := [.tmp 22]) (al := [u28]) Try.func29 (by kernel_rfl) rfl rfl rfl (bchDecode_ok (flipL (encR (dataL la 24)) (placesL ll 224 12)) u28 _ (Ps.no f29) (by have := flipL_length (encR (dataL la 24)) (placesL ll 224 12); have := places_le ll 224 12; have := dataL_length la 24; have := encR_len (dataL la 24); first | omega | (simp; done) | (simp; omega)))) ?_
 rintro _ w30 ⟨u32, rfl, f33, o31⟩
 replace f33 := f33.less (Y := (Old W.heap.size)) (old_old oW.size)
 replace h1 := h1.step0 o31
 replace h2 := h2.step0 o31
 replace f16 := f16.step0 o31
 replace f20 := f20.step0 o31
 replace f25 := f25.step0 o31
 replace f29 := f29.step0 o31
 replace oW := oW.tail0 o31
 refine wpL.is rfl (d_move rfl) ?_
 refine wpL.is rfl (d_extract (v := u32) rfl rfl) ?_
 refine wpL.flat ([(zf21 0), u2, (zf21 2), (zf21 3), (zf21 4), u15, u19, u24] ++ (zs zf21 8 9 ++ [u2, u24, (Value.tuple #[u32, (eN (decN (flipL (encR (dataL la 24)) (placesL ll 224 12)))), (Value.bool (decB (flipL (encR (dataL la 24)) (placesL ll 224 12))))]), u19, u24, u28, (Value.tuple #[u32, (eN (decN (flipL (encR (dataL la 24)) (placesL ll 224 12)))), (Value.bool (decB (flipL (encR (dataL la 24)) (placesL ll 224 12))))]), u32] ++ (zs zf21 25 42))) (by kernel_rfl) ?_
 refine wpL.is rfl (d_extract (v := (eN (decN (flipL (encR (dataL la 24)) (placesL ll 224 12))))) rfl rfl) ?_
 refine wpL.is rfl (d_extract (v := (Value.bool (decB (flipL (encR (dataL la 24)) (placesL ll 224 12))))) rfl rfl) ?_
 refine wpL.is rfl (d_assign rfl) ?_
 refine wpL.flat ([(zf21 0), u2, (zf21 2), (zf21 3), (zf21 4), u15, u19, u24, u32] ++ (zs zf21 9 8 ++ [u2, u24, (Value.tuple #[u32, (eN (decN (flipL (encR (dataL la 24)) (placesL ll 224 12)))), (Value.bool (decB (flipL (encR (dataL la 24)) (placesL ll 224 12))))]), u19, u24, u28, (Value.tuple #[u32, (eN (decN (flipL (encR (dataL la 24)) (placesL ll 224 12)))), (Value.bool (decB (flipL (encR (dataL la 24)) (placesL ll 224 12))))]), u32, (eN (decN (flipL (encR (dataL la 24)) (placesL ll 224 12)))), (Value.bool (decB (flipL (encR (dataL la 24)) (placesL ll 224 12))))] ++ (zs zf21 27 40))) (by kernel_rfl) ?_
 refine wpL.is rfl (d_assign rfl) ?_
 refine wpL.is rfl (d_assign rfl) ?_
 refine wpL.flat ([(zf21 0), u2, (zf21 2), (zf21 3), (zf21 4), u15, u19, u24, u32, (eN (decN (flipL (encR (dataL la 24)) (placesL ll 224 12)))), (Value.bool (decB (flipL (encR (dataL la 24)) (placesL ll 224 12))))] ++ (zs zf21 11 6 ++ [u2, u24, (Value.tuple #[u32, (eN (decN (flipL (encR (dataL la 24)) (placesL ll 224 12)))), (Value.bool (decB (flipL (encR (dataL la 24)) (placesL ll 224 12))))]), u19, u24, u28, (Value.tuple #[u32, (eN (decN (flipL (encR (dataL la 24)) (placesL ll 224 12)))), (Value.bool (decB (flipL (encR (dataL la 24)) (placesL ll 224 12))))]), u32, (eN (decN (flipL (encR (dataL la 24)) (placesL ll 224 12)))), (Value.bool (decB (flipL (encR (dataL la 24)) (placesL ll 224 12))))] ++ (zs zf21 27 40))) (by kernel_rfl) ?_
 refine wpL.done ?_
 refine then_n ?_
 refine forget (fun zf38 => (zs zf38 0 5 ++ [u15, u19, u24, u32, (eN (decN (flipL (encR (dataL la 24)) (placesL ll 224 12)))), (Value.bool (decB (flipL (encR (dataL la 24)) (placesL ll 224 12))))] ++ (zs zf38 11 56))) (by kernel_rfl) (fun zf38 => ?_)
 refine wpIn_seq ?_
 refine wpIn_seq ?_
 refine plain ?_
 refine wpL.is rfl (d_move rfl) ?_
 refine wpL.is rfl (d_not rfl rfl) ?_
 refine wpL.flat (zs zf38 0 5 ++ [u15, u19, u24, u32, (eN (decN (flipL (encR (dataL la 24)) (placesL ll 224 12)))), (Value.bool (decB (flipL (encR (dataL la 24)) (placesL ll 224 12))))] ++ (zs zf38 11 16 ++ [(Value.bool (decB (flipL (encR (dataL la 24)) (placesL ll 224 12)))), (Value.bool (!(decB (flipL (encR (dataL la 24)) (placesL ll 224 12)))))] ++ (zs zf38 29 38))) (by kernel_rfl) ?_
 refine wpL.done ?_
 refine then_n ?_
 refine cond_b rfl (fun c0 => ?_) (fun c0 => ?_)
 ·
  have hb_ : decB (flipL (encR (dataL la 24)) (placesL ll 224 12)) = false := by simpa using c0
  have hm_ := dec_false hb_
  refine wpIn_seq ?_
  refine plain ?_
  refine wpL.is rfl (d_move rfl) ?_
  refine wpL.is rfl (n_eql (a := (decN (flipL (encR (dataL la 24)) (placesL ll 224 12)))) (b := 0) rfl rfl (decide_eq_true hm_.2)) ?_
  refine wpL.is rfl (d_move rfl) ?_
  refine wpL.flat (zs zf38 0 5 ++ [u15, u19, u24, u32, (eN (decN (flipL (encR (dataL la 24)) (placesL ll 224 12)))), (Value.bool (decB (flipL (encR (dataL la 24)) (placesL ll 224 12))))] ++ (zs zf38 11 16 ++ [(Value.bool (decB (flipL (encR (dataL la 24)) (placesL ll 224 12)))), (Value.bool (!(decB (flipL (encR (dataL la 24)) (placesL ll 224 12))))), (eN (decN (flipL (encR (dataL la 24)) (placesL ll 224 12)))), (Value.bool true), (Value.bool true)] ++ (zs zf38 32 35))) (by kernel_rfl) ?_
  refine wpL.onis rfl rfl rfl (Nat.le_of_ble_eq_true rfl) rfl (d_move rfl) ?_
  refine wpL.onis rfl rfl rfl (Nat.le_of_ble_eq_true rfl) rfl (d_lenS rfl Try.underlying22 rfl f33) ?_
  refine wpL.onis rfl rfl rfl (Nat.le_of_ble_eq_true rfl) rfl (n_eql (a := ((decD (flipL (encR (dataL la 24)) (placesL ll 224 12))).length)) (b := 0) rfl rfl (decide_eq_true (by rw [hm_.1]; rfl))) ?_
  refine wpL.flat (zs zf38 0 5 ++ [u15, u19, u24, u32, (eN (decN (flipL (encR (dataL la 24)) (placesL ll 224 12)))), (Value.bool (decB (flipL (encR (dataL la 24)) (placesL ll 224 12))))] ++ (zs zf38 11 16 ++ [(Value.bool (decB (flipL (encR (dataL la 24)) (placesL ll 224 12)))), (Value.bool (!(decB (flipL (encR (dataL la 24)) (placesL ll 224 12))))), (eN (decN (flipL (encR (dataL la 24)) (placesL ll 224 12)))), (Value.bool true), (Value.bool true), u32, (eN ((decD (flipL (encR (dataL la 24)) (placesL ll 224 12))).length)), (Value.bool true)] ++ (zs zf38 35 32))) (by kernel_rfl) ?_
  refine wpL.is rfl (d_pick (b := true) (v := (Value.bool true)) rfl rfl) ?_
  refine wpL.is rfl (d_move rfl) ?_
  refine wpL.onis rfl rfl rfl (Nat.le_of_ble_eq_true rfl) rfl (d_move rfl) ?_
  refine wpL.flat (zs zf38 0 5 ++ [u15, u19, u24, u32, (eN (decN (flipL (encR (dataL la 24)) (placesL ll 224 12)))), (Value.bool (decB (flipL (encR (dataL la 24)) (placesL ll 224 12))))] ++ (zs zf38 11 16 ++ [(Value.bool (decB (flipL (encR (dataL la 24)) (placesL ll 224 12)))), (Value.bool (!(decB (flipL (encR (dataL la 24)) (placesL ll 224 12))))), (eN (decN (flipL (encR (dataL la 24)) (placesL ll 224 12)))), (Value.bool true), (Value.bool true), u32, (eN ((decD (flipL (encR (dataL la 24)) (placesL ll 224 12))).length)), (Value.bool true), (Value.bool true), (Value.bool true), u24] ++ (zs zf38 38 29))) (by kernel_rfl) ?_
  refine wpL.onis rfl rfl rfl (Nat.le_of_ble_eq_true rfl) rfl (d_lenS rfl Try.underlying26 rfl f25) ?_
  refine wpL.onis rfl rfl rfl (Nat.le_of_ble_eq_true rfl) rfl (n_gtr (a := ((placesL ll 224 12).length)) (b := 3) rfl rfl (decide_eq_true (near_few (dataL_length la 24) ll hb_))) ?_
  refine wpL.is rfl (d_pick (b := true) (v := (Value.bool true)) rfl rfl) ?_
  refine wpL.flat (zs zf38 0 5 ++ [u15, u19, u24, u32, (eN (decN (flipL (encR (dataL la 24)) (placesL ll 224 12)))), (Value.bool (decB (flipL (encR (dataL la 24)) (placesL ll 224 12))))] ++ (zs zf38 11 16 ++ [(Value.bool (decB (flipL (encR (dataL la 24)) (placesL ll 224 12)))), (Value.bool (!(decB (flipL (encR (dataL la 24)) (placesL ll 224 12))))), (eN (decN (flipL (encR (dataL la 24)) (placesL ll 224 12)))), (Value.bool true), (Value.bool true), u32, (eN ((decD (flipL (encR (dataL la 24)) (placesL ll 224 12))).length)), (Value.bool true), (Value.bool true), (Value.bool true), u24, (eN ((placesL ll 224 12).length)), (Value.bool true), (Value.bool true)] ++ (zs zf38 41 26))) (by kernel_rfl) ?_
  refine wpL.is rfl (d_assign rfl) ?_
  refine wpL.flat ([(zf38 0), (zf38 1), (zf38 2), (zf38 3), (Value.bool true), u15, u19, u24, u32, (eN (decN (flipL (encR (dataL la 24)) (placesL ll 224 12)))), (Value.bool (decB (flipL (encR (dataL la 24)) (placesL ll 224 12))))] ++ (zs zf38 11 16 ++ [(Value.bool (decB (flipL (encR (dataL la 24)) (placesL ll 224 12)))), (Value.bool (!(decB (flipL (encR (dataL la 24)) (placesL ll 224 12))))), (eN (decN (flipL (encR (dataL la 24)) (placesL ll 224 12)))), (Value.bool true), (Value.bool true), u32, (eN ((decD (flipL (encR (dataL la 24)) (placesL ll 224 12))).length)), (Value.bool true), (Value.bool true), (Value.bool true), u24, (eN ((placesL ll 224 12).length)), (Value.bool true), (Value.bool true)] ++ (zs zf38 41 26))) (by kernel_rfl) ?_
  refine wpL.done ?_
  refine then_n ?_
  refine forget (fun zf39 => ([(zf39 0), (zf39 1), (zf39 2), (zf39 3), (Value.bool true)] ++ (zs zf39 5 62))) (by kernel_rfl) (fun zf39 => ?_)
  refine wpIn_ret ?_
  refine then_r ?_
  refine leave0 (v := (Value.bool true)) (res1 Try.results11 rfl) ?_
  exact ⟨rfl, oW⟩
 ·
  have hb_ : decB (flipL (encR (dataL la 24)) (placesL ll 224 12)) = true := by simpa using c0
  refine wpIn_skip ?_
  refine then_n ?_
  refine wpIn_seq ?_
  refine wpIn_seq ?_
  refine plain ?_
  refine wpL.is rfl (d_move rfl) ?_
  refine wpL.is rfl (d_str Try.underlying22 Try.underlying5 Try.underlying9 rfl f33) ?_
  refine wpL.is rfl (d_move rfl) ?_
  refine wpL.flat (zs zf38 0 5 ++ [u15, u19, u24, u32, (eN (decN (flipL (encR (dataL la 24)) (placesL ll 224 12)))), (Value.bool (decB (flipL (encR (dataL la 24)) (placesL ll 224 12))))] ++ (zs zf38 11 16 ++ [(Value.bool (decB (flipL (encR (dataL la 24)) (placesL ll 224 12)))), (Value.bool (!(decB (flipL (encR (dataL la 24)) (placesL ll 224 12)))))] ++ (zs zf38 29 12 ++ [u32, (Value.string (strOf (decD (flipL (encR (dataL la 24)) (placesL ll 224 12))))), u15] ++ (zs zf38 44 23)))) (by kernel_rfl) ?_
  refine wpL.is rfl (d_str Try.underlying22 Try.underlying5 Try.underlying9 rfl f16) ?_
  refine wpL.is rfl (d_seql (a := (decD (flipL (encR (dataL la 24)) (placesL ll 224 12)))) (c := (dataL la 24)) rfl rfl rfl) ?_
  refine wpL.flat (zs zf38 0 5 ++ [u15, u19, u24, u32, (eN (decN (flipL (encR (dataL la 24)) (placesL ll 224 12)))), (Value.bool (decB (flipL (encR (dataL la 24)) (placesL ll 224 12))))] ++ (zs zf38 11 16 ++ [(Value.bool (decB (flipL (encR (dataL la 24)) (placesL ll 224 12)))), (Value.bool (!(decB (flipL (encR (dataL la 24)) (placesL ll 224 12)))))] ++ (zs zf38 29 12 ++ [u32, (Value.string (strOf (decD (flipL (encR (dataL la 24)) (placesL ll 224 12))))), u15, (Value.string (strOf (dataL la 24))), (Value.bool (decide ((decD (flipL (encR (dataL la 24)) (placesL ll 224 12))) = (dataL la 24))))] ++ (zs zf38 46 21)))) (by kernel_rfl) ?_
  refine wpL.done ?_
  refine then_n ?_
  refine forget (fun zf40 => (zs zf40 0 6 ++ [u19, u24, u32, (eN (decN (flipL (encR (dataL la 24)) (placesL ll 224 12))))] ++ (zs zf40 10 35 ++ [(Value.bool (decide ((decD (flipL (encR (dataL la 24)) (placesL ll 224 12))) = (dataL la 24))))] ++ (zs zf40 46 21)))) (by kernel_rfl) (fun zf40 => ?_)
  refine cond_if rfl (fun c1 => ?_) (fun c1 => ?_)
  ·
   refine wpIn_seq ?_
   refine plain ?_
   refine wpL.is rfl (d_move rfl) ?_
   refine wpL.is rfl (d_move rfl) ?_
   refine wpL.is rfl (d_lenS rfl Try.underlying26 rfl f25) ?_
   refine wpL.flat (zs zf40 0 6 ++ [u19, u24, u32, (eN (decN (flipL (encR (dataL la 24)) (placesL ll 224 12))))] ++ (zs zf40 10 35 ++ [(Value.bool (decide ((decD (flipL (encR (dataL la 24)) (placesL ll 224 12))) = (dataL la 24)))), (eN (decN (flipL (encR (dataL la 24)) (placesL ll 224 12)))), u24, (eN ((placesL ll 224 12).length))] ++ (zs zf40 49 18))) (by kernel_rfl) ?_
   refine wpL.is rfl (n_eql (a := (decN (flipL (encR (dataL la 24)) (placesL ll 224 12)))) (b := ((placesL ll 224 12).length)) rfl rfl (decide_eq_true (near_same (dataL_length la 24) ll hb_ c1))) ?_
   refine wpL.is rfl (d_assign rfl) ?_
   refine wpL.flat ([(zf40 0), (zf40 1), (zf40 2), (zf40 3), (Value.bool true), (zf40 5), u19, u24, u32, (eN (decN (flipL (encR (dataL la 24)) (placesL ll 224 12))))] ++ (zs zf40 10 35 ++ [(Value.bool (decide ((decD (flipL (encR (dataL la 24)) (placesL ll 224 12))) = (dataL la 24)))), (eN (decN (flipL (encR (dataL la 24)) (placesL ll 224 12)))), u24, (eN ((placesL ll 224 12).length)), (Value.bool true)] ++ (zs zf40 50 17))) (by kernel_rfl) ?_
   refine wpL.done ?_
   refine then_n ?_
   refine forget (fun zf41 => ([(zf41 0), (zf41 1), (zf41 2), (zf41 3), (Value.bool true)] ++ (zs zf41 5 62))) (by kernel_rfl) (fun zf41 => ?_)
   refine wpIn_ret ?_
   refine then_r ?_
   refine leave0 (v := (Value.bool true)) (res1 Try.results11 rfl) ?_
   exact ⟨rfl, oW⟩
  ·
   refine wpIn_skip ?_
   refine then_n ?_
   refine wpIn_seq ?_
   have ho_ := near_other (dataL_length la 24) ll hb_ c1
   refine plain ?_
   refine wpL.is rfl (d_move rfl) ?_
   refine wpL.is rfl (n_leq (a := (decN (flipL (encR (dataL la 24)) (placesL ll 224 12)))) (b := 3) rfl rfl (decide_eq_true ho_.1)) ?_
   refine wpL.is rfl (d_move rfl) ?_
   refine wpL.flat (zs zf40 0 6 ++ [u19, u24, u32, (eN (decN (flipL (encR (dataL la 24)) (placesL ll 224 12))))] ++ (zs zf40 10 35 ++ [(Value.bool (decide ((decD (flipL (encR (dataL la 24)) (placesL ll 224 12))) = (dataL la 24)))), (zf40 46), (zf40 47), (zf40 48), (zf40 49), (eN (decN (flipL (encR (dataL la 24)) (placesL ll 224 12)))), (Value.bool true), (Value.bool true)] ++ (zs zf40 53 14))) (by kernel_rfl) ?_
   refine wpL.onis rfl rfl rfl (Nat.le_of_ble_eq_true rfl) rfl (d_move rfl) ?_
   refine wpL.onis rfl rfl rfl (Nat.le_of_ble_eq_true rfl) rfl (d_lenS rfl Try.underlying26 rfl f25) ?_
   refine wpL.onis rfl rfl rfl (Nat.le_of_ble_eq_true rfl) rfl (d_move rfl) ?_
   refine wpL.flat (zs zf40 0 6 ++ [u19, u24, u32, (eN (decN (flipL (encR (dataL la 24)) (placesL ll 224 12))))] ++ (zs zf40 10 35 ++ [(Value.bool (decide ((decD (flipL (encR (dataL la 24)) (placesL ll 224 12))) = (dataL la 24)))), (zf40 46), (zf40 47), (zf40 48), (zf40 49), (eN (decN (flipL (encR (dataL la 24)) (placesL ll 224 12)))), (Value.bool true), (Value.bool true), u24, (eN ((placesL ll 224 12).length)), (eN (decN (flipL (encR (dataL la 24)) (placesL ll 224 12))))] ++ (zs zf40 56 11))) (by kernel_rfl) ?_
   refine wpL.onis rfl rfl rfl (Nat.le_of_ble_eq_true rfl) rfl (n_sub (a := 9) (b := (decN (flipL (encR (dataL la 24)) (placesL ll 224 12)))) rfl rfl (by omega) (by omega)) ?_
   refine wpL.onis rfl rfl rfl (Nat.le_of_ble_eq_true rfl) rfl (n_geq (a := ((placesL ll 224 12).length)) (b := (9 - (decN (flipL (encR (dataL la 24)) (placesL ll 224 12))))) rfl rfl (decide_eq_true ho_.2.1)) ?_
   refine wpL.is rfl (d_pick (b := true) (v := (Value.bool true)) rfl rfl) ?_
   refine wpL.flat (zs zf40 0 6 ++ [u19, u24, u32, (eN (decN (flipL (encR (dataL la 24)) (placesL ll 224 12))))] ++ (zs zf40 10 35 ++ [(Value.bool (decide ((decD (flipL (encR (dataL la 24)) (placesL ll 224 12))) = (dataL la 24)))), (zf40 46), (zf40 47), (zf40 48), (zf40 49), (eN (decN (flipL (encR (dataL la 24)) (placesL ll 224 12)))), (Value.bool true), (Value.bool true), u24, (eN ((placesL ll 224 12).length)), (eN (decN (flipL (encR (dataL la 24)) (placesL ll 224 12)))), (eN (9 - (decN (flipL (encR (dataL la 24)) (placesL ll 224 12))))), (Value.bool true), (Value.bool true)] ++ (zs zf40 59 8))) (by kernel_rfl) ?_
   refine wpL.is rfl (d_move rfl) ?_
   refine wpL.onis rfl rfl rfl (Nat.le_of_ble_eq_true rfl) rfl (d_move rfl) ?_
   refine wpL.on rfl rfl rfl (Nat.le_of_ble_eq_true rfl) rfl (d_call (xl := [.tmp 60]) (al := [u32]) Try.func15 (by kernel_rfl) rfl rfl rfl (bchEncode_ok (decD (flipL (encR (dataL la 24)) (placesL ll 224 12))) u32 _ (Ps.no f33) (by have := flipL_length (encR (dataL la 24)) (placesL ll 224 12); have := decD_len (flipL (encR (dataL la 24)) (placesL ll 224 12)); have := places_le ll 224 12; have := dataL_length la 24; have := encR_len (dataL la 24); first | omega | (simp; done) | (simp; omega)))) ?_
   rintro u44 w42 f45
   replace f45 := f45.ps
   obtain ⟨f45, o43⟩ := f45
   replace f45 := f45.less (Y := (Old W.heap.size)) (old_old oW.size)
   replace h1 := h1.step0 o43
   replace h2 := h2.step0 o43
   replace f16 := f16.step0 o43
   replace f20 := f20.step0 o43
   replace f25 := f25.step0 o43
   replace f29 := f29.step0 o43
   replace f33 := f33.step0 o43
   replace oW := oW.tail0 o43
   refine wpL.flat (zs zf40 0 6 ++ [u19, u24, u32, (eN (decN (flipL (encR (dataL la 24)) (placesL ll 224 12))))] ++ (zs zf40 10 35 ++ [(Value.bool (decide ((decD (flipL (encR (dataL la 24)) (placesL ll 224 12))) = (dataL la 24)))), (zf40 46), (zf40 47), (zf40 48), (zf40 49), (eN (decN (flipL (encR (dataL la 24)) (placesL ll 224 12)))), (Value.bool true), (Value.bool true), u24, (eN ((placesL ll 224 12).length)), (eN (decN (flipL (encR (dataL la 24)) (placesL ll 224 12)))), (eN (9 - (decN (flipL (encR (dataL la 24)) (placesL ll 224 12))))), (Value.bool true), (Value.bool true), (Value.bool true), u32, u44] ++ (zs zf40 62 5))) (by kernel_rfl) ?_
   refine wpL.onis rfl rfl rfl (Nat.le_of_ble_eq_true rfl) rfl (d_move rfl) ?_
   refine wpL.on rfl rfl rfl (Nat.le_of_ble_eq_true rfl) rfl (d_call (xl := [.tmp 61, .tmp 62]) (al := [u44, u19]) Try.func16 (by kernel_rfl) rfl rfl rfl (ref6Apart_ok (encR (decD (flipL (encR (dataL la 24)) (placesL ll 224 12)))) (encR (dataL la 24)) u44 u19 _ (Ps.no f45) (Ps.no f20) (by have := flipL_length (encR (dataL la 24)) (placesL ll 224 12); have := decD_len (flipL (encR (dataL la 24)) (placesL ll 224 12)); have := places_le ll 224 12; have := dataL_length la 24; have := encR_len (decD (flipL (encR (dataL la 24)) (placesL ll 224 12))); have := encR_len (dataL la 24); first | omega | (simp; done) | (simp; omega)) (by have := dataL_length la 24; have := encR_len (dataL la 24); first | omega | (simp; done) | (simp; omega)))) ?_
   rintro u48 w46 f49
   replace f49 := f49.ps
   obtain ⟨f49, o47⟩ := f49
   replace f49 := f49.less (Y := (Old W.heap.size)) (old_old oW.size)
   replace h1 := h1.step0 o47
   replace h2 := h2.step0 o47
   replace f16 := f16.step0 o47
   replace f20 := f20.step0 o47
   replace f25 := f25.step0 o47
   replace f29 := f29.step0 o47
   replace f33 := f33.step0 o47
   replace f45 := f45.step0 o47
   replace oW := oW.tail0 o47
   refine wpL.onis rfl rfl rfl (Nat.le_of_ble_eq_true rfl) rfl (d_lenS rfl Try.underlying26 rfl f49) ?_
   refine wpL.flat (zs zf40 0 6 ++ [u19, u24, u32, (eN (decN (flipL (encR (dataL la 24)) (placesL ll 224 12))))] ++ (zs zf40 10 35 ++ [(Value.bool (decide ((decD (flipL (encR (dataL la 24)) (placesL ll 224 12))) = (dataL la 24)))), (zf40 46), (zf40 47), (zf40 48), (zf40 49), (eN (decN (flipL (encR (dataL la 24)) (placesL ll 224 12)))), (Value.bool true), (Value.bool true), u24, (eN ((placesL ll 224 12).length)), (eN (decN (flipL (encR (dataL la 24)) (placesL ll 224 12)))), (eN (9 - (decN (flipL (encR (dataL la 24)) (placesL ll 224 12))))), (Value.bool true), (Value.bool true), (Value.bool true), u32, u44, u19, u48, (eN ((apR (encR (decD (flipL (encR (dataL la 24)) (placesL ll 224 12)))) (encR (dataL la 24))).length)), (zf40 65), (zf40 66)])) (by kernel_rfl) ?_
   refine wpL.onis rfl rfl rfl (Nat.le_of_ble_eq_true rfl) rfl (n_geq (a := ((apR (encR (decD (flipL (encR (dataL la 24)) (placesL ll 224 12)))) (encR (dataL la 24))).length)) (b := 9) rfl rfl (decide_eq_true ho_.2.2)) ?_
   refine wpL.is rfl (d_pick (b := true) (v := (Value.bool true)) rfl rfl) ?_
   refine wpL.is rfl (d_assign rfl) ?_
   refine wpL.flat ([(zf40 0), (zf40 1), (zf40 2), (zf40 3), (Value.bool true), (zf40 5), u19, u24, u32, (eN (decN (flipL (encR (dataL la 24)) (placesL ll 224 12))))] ++ (zs zf40 10 35 ++ [(Value.bool (decide ((decD (flipL (encR (dataL la 24)) (placesL ll 224 12))) = (dataL la 24)))), (zf40 46), (zf40 47), (zf40 48), (zf40 49), (eN (decN (flipL (encR (dataL la 24)) (placesL ll 224 12)))), (Value.bool true), (Value.bool true), u24, (eN ((placesL ll 224 12).length)), (eN (decN (flipL (encR (dataL la 24)) (placesL ll 224 12)))), (eN (9 - (decN (flipL (encR (dataL la 24)) (placesL ll 224 12))))), (Value.bool true), (Value.bool true), (Value.bool true), u32, u44, u19, u48, (eN ((apR (encR (decD (flipL (encR (dataL la 24)) (placesL ll 224 12)))) (encR (dataL la 24))).length)), (Value.bool true), (Value.bool true)])) (by kernel_rfl) ?_
   refine wpL.done ?_
   refine then_n ?_
   refine forget (fun zf50 => ([(zf50 0), (zf50 1), (zf50 2), (zf50 3), (Value.bool true)] ++ (zs zf50 5 62))) (by kernel_rfl) (fun zf50 => ?_)
   refine wpIn_ret ?_
   refine leave0 (v := (Value.bool true)) (res1 Try.results11 rfl) ?_
   exact ⟨rfl, oW⟩

end Go.Proofs.YtkppgdbpadaegaaF
