import Derived.Test.YtkppgdbpadaegaaFl
import Derived.Test.YtkppgdbpadaegaaTy
import Derived.Test.YtkppgdbpadaegaaHutil
import Derived.Test.YtkppgdbpadaegaaMj
import Derived.Test.YtkppgdbpadaegaaHref4
set_option linter.unusedVariables false
set_option linter.unusedSimpArgs false
namespace Go.Proofs.YtkppgdbpadaegaaF
open Go Go.Shelf Go.Proofs.YtkppgdbpadaegaaS Ram
set_option maxRecDepth 20000 in
set_option maxHeartbeats 1000000 in
theorem bchMends_law (la : List UInt8) (ll : List Int) (u1 u2 : Value) (W : World) (h1 : Ps No (Seq kB la u1) W) (h2 : Ps No (Seq kI ll u2) W) (g1 : la.length ≤ 140737488351232) (g2 : ll.length ≤ 140737488351232) :
    CW Try.prog 8 #[u1, u2] W (Rt (RIs (.bool true) W)) := by
 have oW : Only No W W := Only.refl _ _
 refine enter (al := [u1, u2]) (k := 51) (l := ([u1, u2] ++ (us 51))) Try.func8 rfl Try.ntmps8 rfl rfl ?_
 refine wpIn_seq ?_
 refine plain ?_
 refine wpL.is rfl (d_assign rfl) ?_
 refine wpL.flat ([u1, u2, undef, undef, (Value.bool false)] ++ (us 48)) (by kernel_rfl) ?_
 refine wpL.done ?_
 refine then_n ?_
 refine wpIn_seq ?_
 refine wpIn_seq ?_
 refine plain ?_
 refine wpL.op rfl (d_call (xl := []) (al := []) Try.func13 (by kernel_rfl) rfl rfl rfl (l4known_ok _)) ?_
 rintro _ w11 ⟨rfl, o12⟩
 replace h1 := h1.step0 o12
 replace h2 := h2.step0 o12
 replace oW := oW.tail0 o12
 refine wpL.is rfl (d_not rfl rfl) ?_
 refine wpL.flat ([u1, u2, undef, undef, (Value.bool false)] ++ (us 5 ++ [(Value.bool true), (Value.bool false)] ++ (us 41))) (by kernel_rfl) ?_
 refine wpL.done ?_
 refine then_n ?_
 refine cond_f rfl ?_
 refine wpIn_skip ?_
 refine then_n ?_
 refine wpIn_seq ?_
 refine plain ?_
 refine wpL.is rfl (d_move rfl) ?_
 refine wpL.op rfl (d_call (xl := [.tmp 12, .const (.int .i64 24)]) (al := [u1, (eN 24)]) Try.func14 (by kernel_rfl) rfl rfl rfl (l4Data_ok la 24 u1 _ (Ps.no h1) (by omega))) ?_
 rintro u15 w13 f16
 replace f16 := f16.ps
 obtain ⟨f16, o14⟩ := f16
 replace f16 := f16.less (Y := (Old W.heap.size)) (old_old oW.size)
 replace h1 := h1.step0 o14
 replace h2 := h2.step0 o14
 replace oW := oW.tail0 o14
 refine wpL.is rfl (d_assign rfl) ?_
 refine wpL.flat ([u1, u2, undef, undef, (Value.bool false), u15, undef, undef, undef, undef, (Value.bool true), (Value.bool false), u1, u15] ++ (us 39)) (by kernel_rfl) ?_
 refine wpL.done ?_
 refine then_n ?_
 refine wpIn_seq ?_
 refine plain ?_
 refine wpL.is rfl (d_move rfl) ?_
 refine wpL.op rfl (d_call (xl := [.tmp 14, .const (.int .i64 224), .const (.int .i64 5)]) (al := [u2, (eN 224), (eN 5)]) Try.func25 (by kernel_rfl) rfl rfl rfl (l4Places_ok ll 224 5 u2 _ (Ps.no h2) (by omega) (by omega) (by omega) (by omega))) ?_
 rintro u19 w17 f20
 replace f20 := f20.ps
 obtain ⟨f20, o18⟩ := f20
 replace f20 := f20.less (Y := (Old W.heap.size)) (old_old oW.size)
 replace h1 := h1.step0 o18
 replace h2 := h2.step0 o18
 replace f16 := f16.step0 o18
 replace oW := oW.tail0 o18
 refine wpL.is rfl (d_assign rfl) ?_
 refine wpL.flat ([u1, u2, undef, undef, (Value.bool false), u15, u19, undef, undef, undef, (Value.bool true), (Value.bool false), u1, u15, u2, u19] ++ (us 37)) (by kernel_rfl) ?_
 refine wpL.done ?_
 refine then_n ?_
 refine forget (fun zf21 => (zs zf21 0 5 ++ [u15, u19] ++ (zs zf21 7 46))) (by kernel_rfl) (fun zf21 => ?_)
 refine wpIn_seq ?_
 refine plain ?_
 refine wpL.is rfl (d_move rfl) ?_
 refine wpL.op rfl (d_call (xl := [.tmp 17]) (al := [u15]) Try.func22 (by kernel_rfl) rfl rfl rfl (ref4Enc_ok (dataL la 24) u15 _ (Ps.no f16) (by have := dataL_length la 24; first | omega | (simp; done) | (simp; omega)))) ?_
 rintro u24 w22 f25
 replace f25 := f25.ps
 obtain ⟨f25, o23⟩ := f25
 replace f25 := f25.less (Y := (Old W.heap.size)) (old_old oW.size)
 replace h1 := h1.step0 o23
 replace h2 := h2.step0 o23
 replace f16 := f16.step0 o23
 replace f20 := f20.step0 o23
 replace oW := oW.tail0 o23
 refine wpL.is rfl (d_move rfl) ?_
 refine wpL.flat (zs zf21 0 5 ++ [u15, u19] ++ (zs zf21 7 10 ++ [u15, u24, u19] ++ (zs zf21 20 33))) (by kernel_rfl) ?_
 refine wpL.op rfl (d_call (xl := [.tmp 18, .tmp 19]) (al := [u24, u19]) Try.func24 (by kernel_rfl) rfl rfl rfl (ref6Flip_ok (encR (dataL la 24)) (placesL ll 224 5) u24 u19 _ (Ps.no f25) (Ps.no f20) (by have := dataL_length la 24; have := encR_len (dataL la 24); first | omega | (simp; done) | (simp; omega)) (by have := places_le ll 224 5; first | omega | (simp; done) | (simp; omega)) (in_place (encR_length (dataL_length _ _)) _ _))) ?_
 rintro u28 w26 f29
 replace f29 := f29.ps
 obtain ⟨f29, o27⟩ := f29
 replace f29 := f29.less (Y := (Old W.heap.size)) (old_old oW.size)
 replace h1 := h1.step0 o27
 replace h2 := h2.step0 o27
 replace f16 := f16.step0 o27
 replace f20 := f20.step0 o27
 replace f25 := f25.step0 o27
 replace oW := oW.tail0 o27
 refine wpL.op rfl (d_call (xl := [.tmp 20]) (al := [u28]) Try.func29 (by kernel_rfl) rfl rfl rfl (bchDecode_ok (flipL (encR (dataL la 24)) (placesL ll 224 5)) u28 _ (Ps.no f29) (by have := flipL_length (encR (dataL la 24)) (placesL ll 224 5); have := places_le ll 224 5; have := dataL_length la 24; have := encR_len (dataL la 24); first | omega | (simp; done) | (simp; omega)))) ?_
 rintro _ w30 ⟨u32, rfl, f33, o31⟩
 replace f33 := f33.less (Y := (Old W.heap.size)) (old_old oW.size)
 replace h1 := h1.step0 o31
 replace h2 := h2.step0 o31
 replace f16 := f16.step0 o31
 replace f20 := f20.step0 o31
 replace f25 := f25.step0 o31
 replace f29 := f29.step0 o31
 replace oW := oW.tail0 o31
 refine wpL.is rfl (d_move rfl) ?_
 refine wpL.flat (zs zf21 0 5 ++ [u15, u19] ++ (zs zf21 7 9 ++ [(Value.tuple #[u32, (eN (decN (flipL (encR (dataL la 24)) (placesL ll 224 5)))), (Value.bool (decB (flipL (encR (dataL la 24)) (placesL ll 224 5))))]), u15, u24, u19, u28, (Value.tuple #[u32, (eN (decN (flipL (encR (dataL la 24)) (placesL ll 224 5)))), (Value.bool (decB (flipL (encR (dataL la 24)) (placesL ll 224 5))))])] ++ (zs zf21 22 31))) (by kernel_rfl) ?_
 refine wpL.is rfl (d_extract (v := u32) rfl rfl) ?_
 refine wpL.is rfl (d_extract (v := (eN (decN (flipL (encR (dataL la 24)) (placesL ll 224 5))))) rfl rfl) ?_
 refine wpL.is rfl (d_extract (v := (Value.bool (decB (flipL (encR (dataL la 24)) (placesL ll 224 5))))) rfl rfl) ?_
 refine wpL.flat (zs zf21 0 5 ++ [u15, u19] ++ (zs zf21 7 9 ++ [(Value.tuple #[u32, (eN (decN (flipL (encR (dataL la 24)) (placesL ll 224 5)))), (Value.bool (decB (flipL (encR (dataL la 24)) (placesL ll 224 5))))]), u15, u24, u19, u28, (Value.tuple #[u32, (eN (decN (flipL (encR (dataL la 24)) (placesL ll 224 5)))), (Value.bool (decB (flipL (encR (dataL la 24)) (placesL ll 224 5))))]), u32, (eN (decN (flipL (encR (dataL la 24)) (placesL ll 224 5)))), (Value.bool (decB (flipL (encR (dataL la 24)) (placesL ll 224 5))))] ++ (zs zf21 25 28))) (by kernel_rfl) ?_
 refine wpL.is rfl (d_assign rfl) ?_
 refine wpL.is rfl (d_assign rfl) ?_
 refine wpL.is rfl (d_assign rfl) ?_
 refine wpL.flat (zs zf21 0 5 ++ [u15, u19, u32, (eN (decN (flipL (encR (dataL la 24)) (placesL ll 224 5)))), (Value.bool (decB (flipL (encR (dataL la 24)) (placesL ll 224 5))))] ++ (zs zf21 10 6 ++ [(Value.tuple #[u32, (eN (decN (flipL (encR (dataL la 24)) (placesL ll 224 5)))), (Value.bool (decB (flipL (encR (dataL la 24)) (placesL ll 224 5))))]), u15, u24, u19, u28, (Value.tuple #[u32, (eN (decN (flipL (encR (dataL la 24)) (placesL ll 224 5)))), (Value.bool (decB (flipL (encR (dataL la 24)) (placesL ll 224 5))))]), u32, (eN (decN (flipL (encR (dataL la 24)) (placesL ll 224 5)))), (Value.bool (decB (flipL (encR (dataL la 24)) (placesL ll 224 5))))] ++ (zs zf21 25 28))) (by kernel_rfl) ?_
 refine wpL.done ?_
 refine then_n ?_
 refine forget (fun zf38 => (zs zf38 0 5 ++ [u15, u19, u32, (eN (decN (flipL (encR (dataL la 24)) (placesL ll 224 5)))), (Value.bool (decB (flipL (encR (dataL la 24)) (placesL ll 224 5))))] ++ (zs zf38 10 43))) (by kernel_rfl) (fun zf38 => ?_)
 refine wpIn_seq ?_
 refine wpIn_seq ?_
 refine plain ?_
 refine wpL.is rfl (d_move rfl) ?_
 refine wpL.is rfl (d_lenS rfl Try.underlying26 rfl f20) ?_
 refine wpL.is rfl (n_gtr (a := ((placesL ll 224 5).length)) (b := 3) rfl rfl rfl) ?_
 refine wpL.flat (zs zf38 0 5 ++ [u15, u19, u32, (eN (decN (flipL (encR (dataL la 24)) (placesL ll 224 5)))), (Value.bool (decB (flipL (encR (dataL la 24)) (placesL ll 224 5))))] ++ (zs zf38 10 15 ++ [u19, (eN ((placesL ll 224 5).length)), (Value.bool (decide (3 < ((placesL ll 224 5).length))))] ++ (zs zf38 28 25))) (by kernel_rfl) ?_
 refine wpL.done ?_
 refine then_n ?_
 refine cond_if rfl (fun c0 => ?_) (fun c0 => ?_)
 ·
  have hm_ := mends_no (dataL_length la 24) ll (by decide) c0
  refine wp_eq (l' := (zs zf38 0 5 ++ [u15, u19, u32, (eN (decN (flipL (encR (dataL la 24)) (placesL ll 224 5)))), (Value.bool false)] ++ (zs zf38 10 15 ++ [u19, (eN ((placesL ll 224 5).length)), (Value.bool (decide (3 < ((placesL ll 224 5).length))))] ++ (zs zf38 28 25)))) (show ((zs zf38 0 5 ++ [u15, u19, u32, (eN (decN (flipL (encR (dataL la 24)) (placesL ll 224 5)))), (Value.bool (decB (flipL (encR (dataL la 24)) (placesL ll 224 5))))] ++ (zs zf38 10 15 ++ [u19, (eN ((placesL ll 224 5).length)), (Value.bool (decide (3 < ((placesL ll 224 5).length))))] ++ (zs zf38 28 25))) : List Value) = (zs zf38 0 5 ++ [u15, u19, u32, (eN (decN (flipL (encR (dataL la 24)) (placesL ll 224 5)))), (Value.bool false)] ++ (zs zf38 10 15 ++ [u19, (eN ((placesL ll 224 5).length)), (Value.bool (decide (3 < ((placesL ll 224 5).length))))] ++ (zs zf38 28 25))) from reslot (zs zf38 0 5 ++ [u15, u19, u32, (eN (decN (flipL (encR (dataL la 24)) (placesL ll 224 5)))), (Value.bool (decB (flipL (encR (dataL la 24)) (placesL ll 224 5))))] ++ (zs zf38 10 15 ++ [u19, (eN ((placesL ll 224 5).length)), (Value.bool (decide (3 < ((placesL ll 224 5).length))))] ++ (zs zf38 28 25))) 9 (congrArg Value.bool hm_.2.2)) ?_
  refine wpIn_seq ?_
  refine plain ?_
  refine wpL.is rfl (d_move rfl) ?_
  refine wpL.is rfl (d_not rfl rfl) ?_
  refine wpL.is rfl (d_move rfl) ?_
  refine wpL.flat (zs zf38 0 5 ++ [u15, u19, u32, (eN (decN (flipL (encR (dataL la 24)) (placesL ll 224 5)))), (Value.bool false)] ++ (zs zf38 10 15 ++ [u19, (eN ((placesL ll 224 5).length)), (Value.bool (decide (3 < ((placesL ll 224 5).length)))), (Value.bool false), (Value.bool true), (Value.bool true)] ++ (zs zf38 31 22))) (by kernel_rfl) ?_
  refine wpL.onis rfl rfl rfl (Nat.le_of_ble_eq_true rfl) rfl (d_move rfl) ?_
  refine wpL.onis rfl rfl rfl (Nat.le_of_ble_eq_true rfl) rfl (n_eql (a := (decN (flipL (encR (dataL la 24)) (placesL ll 224 5)))) (b := 0) rfl rfl (decide_eq_true hm_.2.1)) ?_
  refine wpL.is rfl (d_pick (b := true) (v := (Value.bool true)) rfl rfl) ?_
  refine wpL.flat (zs zf38 0 5 ++ [u15, u19, u32, (eN (decN (flipL (encR (dataL la 24)) (placesL ll 224 5)))), (Value.bool false)] ++ (zs zf38 10 15 ++ [u19, (eN ((placesL ll 224 5).length)), (Value.bool (decide (3 < ((placesL ll 224 5).length)))), (Value.bool false), (Value.bool true), (Value.bool true), (eN (decN (flipL (encR (dataL la 24)) (placesL ll 224 5)))), (Value.bool true), (Value.bool true)] ++ (zs zf38 34 19))) (by kernel_rfl) ?_
  refine wpL.is rfl (d_move rfl) ?_
  refine wpL.onis rfl rfl rfl (Nat.le_of_ble_eq_true rfl) rfl (d_move rfl) ?_
  refine wpL.onis rfl rfl rfl (Nat.le_of_ble_eq_true rfl) rfl (d_lenS rfl Try.underlying22 rfl f33) ?_
  refine wpL.flat (zs zf38 0 5 ++ [u15, u19, u32, (eN (decN (flipL (encR (dataL la 24)) (placesL ll 224 5)))), (Value.bool false)] ++ (zs zf38 10 15 ++ [u19, (eN ((placesL ll 224 5).length)), (Value.bool (decide (3 < ((placesL ll 224 5).length)))), (Value.bool false), (Value.bool true), (Value.bool true), (eN (decN (flipL (encR (dataL la 24)) (placesL ll 224 5)))), (Value.bool true), (Value.bool true), (Value.bool true), u32, (eN ((decD (flipL (encR (dataL la 24)) (placesL ll 224 5))).length))] ++ (zs zf38 37 16))) (by kernel_rfl) ?_
  refine wpL.onis rfl rfl rfl (Nat.le_of_ble_eq_true rfl) rfl (n_eql (a := ((decD (flipL (encR (dataL la 24)) (placesL ll 224 5))).length)) (b := 0) rfl rfl (decide_eq_true (by rw [hm_.1]; rfl))) ?_
  refine wpL.is rfl (d_pick (b := true) (v := (Value.bool true)) rfl rfl) ?_
  refine wpL.is rfl (d_assign rfl) ?_
  refine wpL.flat ([(zf38 0), (zf38 1), (zf38 2), (zf38 3), (Value.bool true), u15, u19, u32, (eN (decN (flipL (encR (dataL la 24)) (placesL ll 224 5)))), (Value.bool false)] ++ (zs zf38 10 15 ++ [u19, (eN ((placesL ll 224 5).length)), (Value.bool (decide (3 < ((placesL ll 224 5).length)))), (Value.bool false), (Value.bool true), (Value.bool true), (eN (decN (flipL (encR (dataL la 24)) (placesL ll 224 5)))), (Value.bool true), (Value.bool true), (Value.bool true), u32, (eN ((decD (flipL (encR (dataL la 24)) (placesL ll 224 5))).length)), (Value.bool true), (Value.bool true)] ++ (zs zf38 39 14))) (by kernel_rfl) ?_
  refine wpL.done ?_
  refine then_n ?_
  refine forget (fun zf39 => ([(zf39 0), (zf39 1), (zf39 2), (zf39 3), (Value.bool true)] ++ (zs zf39 5 48))) (by kernel_rfl) (fun zf39 => ?_)
  refine wpIn_ret ?_
  refine then_r ?_
  refine leave0 (v := (Value.bool true)) (res1 Try.results8 rfl) ?_
  exact ⟨rfl, oW⟩
 ·
  have hm_ := mends_yes (dataL_length la 24) ll c0
  refine wp_eq (l' := (zs zf38 0 5 ++ [u15, u19, u32, (eN (decN (flipL (encR (dataL la 24)) (placesL ll 224 5)))), (Value.bool true)] ++ (zs zf38 10 15 ++ [u19, (eN ((placesL ll 224 5).length)), (Value.bool (decide (3 < ((placesL ll 224 5).length))))] ++ (zs zf38 28 25)))) (show ((zs zf38 0 5 ++ [u15, u19, u32, (eN (decN (flipL (encR (dataL la 24)) (placesL ll 224 5)))), (Value.bool (decB (flipL (encR (dataL la 24)) (placesL ll 224 5))))] ++ (zs zf38 10 15 ++ [u19, (eN ((placesL ll 224 5).length)), (Value.bool (decide (3 < ((placesL ll 224 5).length))))] ++ (zs zf38 28 25))) : List Value) = (zs zf38 0 5 ++ [u15, u19, u32, (eN (decN (flipL (encR (dataL la 24)) (placesL ll 224 5)))), (Value.bool true)] ++ (zs zf38 10 15 ++ [u19, (eN ((placesL ll 224 5).length)), (Value.bool (decide (3 < ((placesL ll 224 5).length))))] ++ (zs zf38 28 25))) from reslot (zs zf38 0 5 ++ [u15, u19, u32, (eN (decN (flipL (encR (dataL la 24)) (placesL ll 224 5)))), (Value.bool (decB (flipL (encR (dataL la 24)) (placesL ll 224 5))))] ++ (zs zf38 10 15 ++ [u19, (eN ((placesL ll 224 5).length)), (Value.bool (decide (3 < ((placesL ll 224 5).length))))] ++ (zs zf38 28 25))) 9 (congrArg Value.bool hm_.2.2)) ?_
  refine wpIn_skip ?_
  refine then_n ?_
  refine wpIn_seq ?_
  refine plain ?_
  refine wpL.is rfl (d_move rfl) ?_
  refine wpL.is rfl (d_move rfl) ?_
  refine wpL.onis rfl rfl rfl (Nat.le_of_ble_eq_true rfl) rfl (d_move rfl) ?_
  refine wpL.flat (zs zf38 0 5 ++ [u15, u19, u32, (eN (decN (flipL (encR (dataL la 24)) (placesL ll 224 5)))), (Value.bool true)] ++ (zs zf38 10 15 ++ [u19, (eN ((placesL ll 224 5).length)), (Value.bool (decide (3 < ((placesL ll 224 5).length))))] ++ (zs zf38 28 11 ++ [(Value.bool true), (Value.bool true), (eN (decN (flipL (encR (dataL la 24)) (placesL ll 224 5))))] ++ (zs zf38 42 11)))) (by kernel_rfl) ?_
  refine wpL.onis rfl rfl rfl (Nat.le_of_ble_eq_true rfl) rfl (d_move rfl) ?_
  refine wpL.onis rfl rfl rfl (Nat.le_of_ble_eq_true rfl) rfl (d_lenS rfl Try.underlying26 rfl f20) ?_
  refine wpL.onis rfl rfl rfl (Nat.le_of_ble_eq_true rfl) rfl (n_eql (a := (decN (flipL (encR (dataL la 24)) (placesL ll 224 5)))) (b := ((placesL ll 224 5).length)) rfl rfl (decide_eq_true hm_.2.1)) ?_
  refine wpL.flat (zs zf38 0 5 ++ [u15, u19, u32, (eN (decN (flipL (encR (dataL la 24)) (placesL ll 224 5)))), (Value.bool true)] ++ (zs zf38 10 15 ++ [u19, (eN ((placesL ll 224 5).length)), (Value.bool (decide (3 < ((placesL ll 224 5).length))))] ++ (zs zf38 28 11 ++ [(Value.bool true), (Value.bool true), (eN (decN (flipL (encR (dataL la 24)) (placesL ll 224 5)))), u19, (eN ((placesL ll 224 5).length)), (Value.bool true)] ++ (zs zf38 45 8)))) (by kernel_rfl) ?_
  refine wpL.is rfl (d_pick (b := true) (v := (Value.bool true)) rfl rfl) ?_
  refine wpL.is rfl (d_move rfl) ?_
  refine wpL.onis rfl rfl rfl (Nat.le_of_ble_eq_true rfl) rfl (d_move rfl) ?_
  refine wpL.flat (zs zf38 0 5 ++ [u15, u19, u32, (eN (decN (flipL (encR (dataL la 24)) (placesL ll 224 5)))), (Value.bool true)] ++ (zs zf38 10 15 ++ [u19, (eN ((placesL ll 224 5).length)), (Value.bool (decide (3 < ((placesL ll 224 5).length))))] ++ (zs zf38 28 11 ++ [(Value.bool true), (Value.bool true), (eN (decN (flipL (encR (dataL la 24)) (placesL ll 224 5)))), u19, (eN ((placesL ll 224 5).length)), (Value.bool true), (Value.bool true), (Value.bool true), u32] ++ (zs zf38 48 5)))) (by kernel_rfl) ?_
  refine wpL.onis rfl rfl rfl (Nat.le_of_ble_eq_true rfl) rfl (d_str Try.underlying22 Try.underlying5 Try.underlying9 rfl f33) ?_
  refine wpL.onis rfl rfl rfl (Nat.le_of_ble_eq_true rfl) rfl (d_move rfl) ?_
  refine wpL.onis rfl rfl rfl (Nat.le_of_ble_eq_true rfl) rfl (d_str Try.underlying22 Try.underlying5 Try.underlying9 rfl f16) ?_
  refine wpL.flat (zs zf38 0 5 ++ [u15, u19, u32, (eN (decN (flipL (encR (dataL la 24)) (placesL ll 224 5)))), (Value.bool true)] ++ (zs zf38 10 15 ++ [u19, (eN ((placesL ll 224 5).length)), (Value.bool (decide (3 < ((placesL ll 224 5).length))))] ++ (zs zf38 28 11 ++ [(Value.bool true), (Value.bool true), (eN (decN (flipL (encR (dataL la 24)) (placesL ll 224 5)))), u19, (eN ((placesL ll 224 5).length)), (Value.bool true), (Value.bool true), (Value.bool true), u32, (Value.string (strOf (decD (flipL (encR (dataL la 24)) (placesL ll 224 5))))), u15, (Value.string (strOf (dataL la 24))), (zf38 51), (zf38 52)]))) (by kernel_rfl) ?_
  refine wpL.onis rfl rfl rfl (Nat.le_of_ble_eq_true rfl) rfl (d_seql (a := (decD (flipL (encR (dataL la 24)) (placesL ll 224 5)))) (c := (dataL la 24)) rfl rfl (decide_eq_true hm_.1)) ?_
  refine wpL.is rfl (d_pick (b := true) (v := (Value.bool true)) rfl rfl) ?_
  refine wpL.is rfl (d_assign rfl) ?_
  refine wpL.flat ([(zf38 0), (zf38 1), (zf38 2), (zf38 3), (Value.bool true), u15, u19, u32, (eN (decN (flipL (encR (dataL la 24)) (placesL ll 224 5)))), (Value.bool true)] ++ (zs zf38 10 15 ++ [u19, (eN ((placesL ll 224 5).length)), (Value.bool (decide (3 < ((placesL ll 224 5).length))))] ++ (zs zf38 28 11 ++ [(Value.bool true), (Value.bool true), (eN (decN (flipL (encR (dataL la 24)) (placesL ll 224 5)))), u19, (eN ((placesL ll 224 5).length)), (Value.bool true), (Value.bool true), (Value.bool true), u32, (Value.string (strOf (decD (flipL (encR (dataL la 24)) (placesL ll 224 5))))), u15, (Value.string (strOf (dataL la 24))), (Value.bool true), (Value.bool true)]))) (by kernel_rfl) ?_
  refine wpL.done ?_
  refine then_n ?_
  refine forget (fun zf40 => ([(zf40 0), (zf40 1), (zf40 2), (zf40 3), (Value.bool true)] ++ (zs zf40 5 48))) (by kernel_rfl) (fun zf40 => ?_)
  refine wpIn_ret ?_
  refine leave0 (v := (Value.bool true)) (res1 Try.results8 rfl) ?_
  exact ⟨rfl, oW⟩

end Go.Proofs.YtkppgdbpadaegaaF
