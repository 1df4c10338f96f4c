import Derived.Test.YtgalehapmdabeaaFz
import Derived.Test.YtgalehapmdabeaaTy
import Derived.Test.YtgalehapmdabeaaHpgu
set_option linter.unusedVariables false
set_option linter.unusedSimpArgs false
namespace Go.Proofs.YtgalehapmdabeaaF
open Go Go.Shelf Go.Proofs.YtgalehapmdabeaaS Ram
set_option maxRecDepth 20000 in
set_option maxHeartbeats 4000000 in
theorem pageBlank_law (la : List UInt8) (ll : List Int) (u1 : Value) (u2 : Value) (W : World) (h1 : Ps No (Seq kB la u1) W) (h2 : Ps No (Seq kI ll u2) W) (g1 : la.length ≤ 140737488351232) (g2 : ll.length ≤ 17592186043904) :
    CW Try.prog 5 #[u1, u2] W (Rt (RIs (.bool true) W)) := by
 have oW : Only No W W := Only.refl _ _
 refine enter (al := [u1, u2]) (k := 34) (l := ([u1, u2] ++ (us 34))) Try.func5 rfl Try.ntmps5 rfl rfl ?_
 refine wpIn_seq ?_
 refine plain ?_
 refine wI (d_assign rfl) ?_
 refine wF ([u1, u2, undef, undef, (Value.bool false)] ++ (us 31)) ?_
 refine wpL.done ?_
 refine then_n ?_
 refine wpIn_seq ?_
 refine wpIn_seq ?_
 refine plain ?_
 refine wO (d_call (xl := []) (al := []) Try.func14 (by kernel_rfl) rfl rfl rfl (l8known_ok _)) ?_
 rintro _ w11 ⟨rfl, o12⟩
 replace h1 := h1.step0 o12
 replace h2 := h2.step0 o12
 replace oW := oW.tail0 o12
 refine wI (d_not rfl rfl) ?_
 refine wF ([u1, u2, undef, undef, (Value.bool false), undef, undef, undef, (Value.bool true), (Value.bool false)] ++ (us 26)) ?_
 refine wpL.done ?_
 refine then_n ?_
 refine cond_f rfl ?_
 refine wpIn_skip ?_
 refine then_n ?_
 refine wpIn_seq ?_
 refine plain ?_
 refine wI (d_move rfl) ?_
 refine wO (d_call (xl := [.tmp 10, .const (.int .i64 48)]) (al := [u1, (eN 48)]) Try.func15 (by kernel_rfl) rfl rfl rfl (l4Data_ok la 48 u1 _ (Ps.no h1) (by omega))) ?_
 rintro u15 w13 f16
 replace f16 := f16.ps
 obtain ⟨f16, o14⟩ := f16
 replace f16 := f16.less (Y := (Old W.heap.size)) (old_old oW.size)
 replace h1 := h1.step0 o14
 replace h2 := h2.step0 o14
 replace oW := oW.tail0 o14
 refine wO (d_call (xl := [.tmp 11]) (al := [u15]) Try.func18 (by kernel_rfl) rfl rfl rfl (ref8Encode_ok (dataL la 48) u15 _ (Ps.no f16) (by have := dataL_length la 48; first | omega | (simp; done) | (simp; omega)))) ?_
 rintro u19 w17 f20
 replace f20 := f20.ps
 obtain ⟨f20, o18⟩ := f20
 replace f20 := f20.less (Y := (Old W.heap.size)) (old_old oW.size)
 replace h1 := h1.step0 o18
 replace h2 := h2.step0 o18
 replace f16 := f16.step0 o18
 replace oW := oW.tail0 o18
 refine wF ([u1, u2, undef, undef, (Value.bool false), undef, undef, undef, (Value.bool true), (Value.bool false), u1, u15, u19] ++ (us 23)) ?_
 refine wI (d_assign rfl) ?_
 refine wF ([u1, u2, undef, undef, (Value.bool false), u19, undef, undef, (Value.bool true), (Value.bool false), u1, u15, u19] ++ (us 23)) ?_
 refine wpL.done ?_
 refine then_n ?_
 refine wpIn_seq ?_
 refine plain ?_
 refine wI (d_move rfl) ?_
 refine wO (d_call (xl := [.tmp 13, .const (.int .i64 32), .const (.int .i64 32)]) (al := [u2, (eN 32), (eN 32)]) Try.func19 (by kernel_rfl) rfl rfl rfl (l4Places_ok ll 32 32 u2 _ (Ps.no h2) (by omega) (by omega) (by omega) (by omega))) ?_
 rintro u23 w21 f24
 replace f24 := f24.ps
 obtain ⟨f24, o22⟩ := f24
 replace f24 := f24.less (Y := (Old W.heap.size)) (old_old oW.size)
 replace h1 := h1.step0 o22
 replace h2 := h2.step0 o22
 replace f16 := f16.step0 o22
 replace f20 := f20.step0 o22
 replace oW := oW.tail0 o22
 refine wI (d_assign rfl) ?_
 refine wF ([u1, u2, undef, undef, (Value.bool false), u19, u23, undef, (Value.bool true), (Value.bool false), u1, u15, u19, u2, u23] ++ (us 21)) ?_
 refine wpL.done ?_
 refine then_n ?_
 refine forget (fun zf25 => (zs zf25 0 5 ++ [u19, u23] ++ (zs zf25 7 29))) (by kernel_rfl) (fun zf25 => ?_)
 refine wpIn_seq ?_
 refine plain ?_
 refine wI (d_move rfl) ?_
 refine wI (d_move rfl) ?_
 refine wO (d_call (xl := [.tmp 15, .tmp 16]) (al := [u19, u23]) Try.func17 (by kernel_rfl) rfl rfl rfl (ref6Flip_ok (pgE (dataL la 48)) (placesL ll 32 32) u19 u23 _ (Ps.no f20) (Ps.no f24) (by have := dataL_length la 48; have := pgE_len (dataL la 48); first | omega | (simp; done) | (simp; omega)) (by have := places_le ll 32 32; first | omega | (simp; done) | (simp; omega)) (pg_flip_in (dataL_length la 48) (fun k hk => by have := places_in ll 32 (show 0 < 32 by decide) k hk; omega)))) ?_
 rintro u28 w26 f29
 replace f29 := f29.ps
 obtain ⟨f29, o27⟩ := f29
 replace f29 := f29.less (Y := (Old W.heap.size)) (old_old oW.size)
 replace h1 := h1.step0 o27
 replace h2 := h2.step0 o27
 replace f16 := f16.step0 o27
 replace f20 := f20.step0 o27
 replace f24 := f24.step0 o27
 replace oW := oW.tail0 o27
 refine wF (zs zf25 0 5 ++ [u19, u23] ++ (zs zf25 7 8 ++ [u19, u23, u28] ++ (zs zf25 18 18))) ?_
 refine wO (d_call (xl := [.tmp 17]) (al := [u28]) Try.func21 (by kernel_rfl) rfl rfl rfl (pageDecode_ok (flipL (pgE (dataL la 48)) (placesL ll 32 32)) u28 _ (Ps.no f29) (by have := flipL_length (pgE (dataL la 48)) (placesL ll 32 32); have := places_le ll 32 32; have := dataL_length la 48; have := pgE_len (dataL la 48); first | omega | (simp; done) | (simp; omega)))) ?_
 rintro _ w30 ⟨u32, rfl, f33, o31⟩
 replace f33 := f33.less (Y := (Old W.heap.size)) (old_old oW.size)
 replace h1 := h1.step0 o31
 replace h2 := h2.step0 o31
 replace f16 := f16.step0 o31
 replace f20 := f20.step0 o31
 replace f24 := f24.step0 o31
 replace f29 := f29.step0 o31
 replace oW := oW.tail0 o31
 refine wO (d_alloc s_ti32 rfl) ?_
 rintro _ w35 ⟨b34, rfl, g36, a37, o38⟩
 have g_oW_b34 : W.heap.size ≤ b34 := Nat.le_trans oW.size g36
 replace h1 := h1.new o38 g36
 replace h2 := h2.new o38 g36
 replace f16 := f16.new o38 g36
 replace f20 := f20.new o38 g36
 replace f24 := f24.new o38 g36
 replace f29 := f29.new o38 g36
 replace f33 := f33.new o38 g36
 replace oW := oW.tail0 o38
 refine wO (d_storeAg (cs' := [(eN ((pgD (flipL (pgE (dataL la 48)) (placesL ll 32 32))).1)), u32]) s_ti32 rfl rfl rfl (oc_cons rfl (oc_cons (Seq.one f33) oc_nil)) a37 (by decide) rfl) ?_
 rintro _ w39 ⟨a40, o41⟩
 replace h1 := h1.stepb o41 in1
 replace h2 := h2.stepb o41 in1
 replace f16 := f16.stepb o41 in1
 replace f20 := f20.stepb o41 in1
 replace f24 := f24.stepb o41 in1
 replace f29 := f29.stepb o41 in1
 replace f33 := f33.stepb o41 in1
 replace oW := oW.tailb o41 g_oW_b34
 refine wF (zs zf25 0 5 ++ [u19, u23, (ptr b34 0)] ++ (zs zf25 8 7 ++ [u19, u23, u28, (Value.agg #[(eN ((pgD (flipL (pgE (dataL la 48)) (placesL ll 32 32))).1)), u32])] ++ (zs zf25 19 17))) ?_
 refine wpL.done ?_
 refine then_n ?_
 refine wpIn_seq ?_
 by_cases d0 : 16 < ((placesL ll 32 32).length)
 ·
  refine plain ?_
  refine wI (d_fieldAddr (j := 0) Try.underlying32 rfl s_ti3 (by decide) rfl rfl) ?_
  refine wI (d_load (v := (eN ((pgD (flipL (pgE (dataL la 48)) (placesL ll 32 32))).1))) ⟨_, Try.underlying3, rfl⟩ rfl a40 rfl) ?_
  refine wI (n_eql (a := ((pgD (flipL (pgE (dataL la 48)) (placesL ll 32 32))).1)) (b := 0) rfl rfl (decide_eq_true (by rw [pg_blank (dataL_length la 48) ll, if_pos d0]))) ?_
  refine wF (zs zf25 0 5 ++ [u19, u23, (ptr b34 0)] ++ (zs zf25 8 7 ++ [u19, u23, u28, (Value.agg #[(eN ((pgD (flipL (pgE (dataL la 48)) (placesL ll 32 32))).1)), u32]), (ptr b34 0), (eN ((pgD (flipL (pgE (dataL la 48)) (placesL ll 32 32))).1)), (Value.bool true)] ++ (zs zf25 22 14))) ?_
  refine wI (d_move rfl) ?_
  refine wI (d_lenS rfl Try.underlying23 rfl f24) ?_
  refine wI (n_gtr (a := ((placesL ll 32 32).length)) (b := 16) rfl rfl (decide_eq_true d0)) ?_
  refine wF (zs zf25 0 5 ++ [u19, u23, (ptr b34 0)] ++ (zs zf25 8 7 ++ [u19, u23, u28, (Value.agg #[(eN ((pgD (flipL (pgE (dataL la 48)) (placesL ll 32 32))).1)), u32]), (ptr b34 0), (eN ((pgD (flipL (pgE (dataL la 48)) (placesL ll 32 32))).1)), (Value.bool true), u23, (eN ((placesL ll 32 32).length)), (Value.bool true)] ++ (zs zf25 25 11))) ?_
  refine wI (d_beql Try.underlying4 rfl rfl rfl) ?_
  refine wI (d_move rfl) ?_
  refine wpL.onis rfl rfl rfl (nb rfl) rfl (d_move rfl) ?_
  refine wF (zs zf25 0 5 ++ [u19, u23, (ptr b34 0)] ++ (zs zf25 8 7 ++ [u19, u23, u28, (Value.agg #[(eN ((pgD (flipL (pgE (dataL la 48)) (placesL ll 32 32))).1)), u32]), (ptr b34 0), (eN ((pgD (flipL (pgE (dataL la 48)) (placesL ll 32 32))).1)), (Value.bool true), u23, (eN ((placesL ll 32 32).length)), (Value.bool true), (Value.bool true), (Value.bool true), u23] ++ (zs zf25 28 8))) ?_
  refine wpL.onis rfl rfl rfl (nb rfl) rfl (d_lenS rfl Try.underlying23 rfl f24) ?_
  refine wpL.onis rfl rfl rfl (nb rfl) rfl (n_gtr (a := ((placesL ll 32 32).length)) (b := 16) rfl rfl (decide_eq_true d0)) ?_
  refine wpL.onis rfl rfl rfl (nb rfl) rfl (d_move rfl) ?_
  refine wF (zs zf25 0 5 ++ [u19, u23, (ptr b34 0)] ++ (zs zf25 8 7 ++ [u19, u23, u28, (Value.agg #[(eN ((pgD (flipL (pgE (dataL la 48)) (placesL ll 32 32))).1)), u32]), (ptr b34 0), (eN ((pgD (flipL (pgE (dataL la 48)) (placesL ll 32 32))).1)), (Value.bool true), u23, (eN ((placesL ll 32 32).length)), (Value.bool true), (Value.bool true), (Value.bool true), u23, (eN ((placesL ll 32 32).length)), (Value.bool true), (Value.bool true)] ++ (zs zf25 31 5))) ?_
  refine wpL.off rfl rfl rfl (nb rfl) rfl ?_
  refine wpL.off rfl rfl rfl (nb rfl) rfl ?_
  refine wF (zs zf25 0 5 ++ [u19, u23, (ptr b34 0)] ++ (zs zf25 8 7 ++ [u19, u23, u28, (Value.agg #[(eN ((pgD (flipL (pgE (dataL la 48)) (placesL ll 32 32))).1)), u32]), (ptr b34 0), (eN ((pgD (flipL (pgE (dataL la 48)) (placesL ll 32 32))).1)), (Value.bool true), u23, (eN ((placesL ll 32 32).length)), (Value.bool true), (Value.bool true), (Value.bool true), u23, (eN ((placesL ll 32 32).length)), (Value.bool true), (Value.bool true), undef, undef, (zf25 33), (zf25 34), (zf25 35)])) ?_
  refine wpL.off rfl rfl rfl (nb rfl) rfl ?_
  refine wpL.onis rfl rfl rfl (nb rfl) rfl (d_pick (b := true) (v := (Value.bool true)) rfl rfl) ?_
  refine wI (d_pick (b := true) (v := (Value.bool true)) rfl rfl) ?_
  refine wI (d_assign rfl) ?_
  refine wF ([(zf25 0), (zf25 1), (zf25 2), (zf25 3), (Value.bool true), u19, u23, (ptr b34 0)] ++ (zs zf25 8 7 ++ [u19, u23, u28, (Value.agg #[(eN ((pgD (flipL (pgE (dataL la 48)) (placesL ll 32 32))).1)), u32]), (ptr b34 0), (eN ((pgD (flipL (pgE (dataL la 48)) (placesL ll 32 32))).1)), (Value.bool true), u23, (eN ((placesL ll 32 32).length)), (Value.bool true), (Value.bool true), (Value.bool true), u23, (eN ((placesL ll 32 32).length)), (Value.bool true), (Value.bool true), undef, undef, undef, (Value.bool true), (Value.bool true)])) ?_
  refine wpL.done ?_
  refine then_n ?_
  refine forget (fun zf42 => ([(zf42 0), (zf42 1), (zf42 2), (zf42 3), (Value.bool true)] ++ (zs zf42 5 31))) (by kernel_rfl) (fun zf42 => ?_)
  refine wpIn_ret ?_
  refine leave0 (v := (Value.bool true)) (res1 Try.results5 rfl) ?_
  exact ⟨rfl, oW⟩
 refine plain ?_
 refine wI (d_fieldAddr (j := 0) Try.underlying32 rfl s_ti3 (by decide) rfl rfl) ?_
 refine wI (d_load (v := (eN ((pgD (flipL (pgE (dataL la 48)) (placesL ll 32 32))).1))) ⟨_, Try.underlying3, rfl⟩ rfl a40 rfl) ?_
 refine wI (n_eql (a := ((pgD (flipL (pgE (dataL la 48)) (placesL ll 32 32))).1)) (b := 0) rfl rfl (decide_eq_false (by rw [pg_blank (dataL_length la 48) ll, if_neg d0]; show ¬ (2 : Nat) = 0; decide))) ?_
 refine wF (zs zf25 0 5 ++ [u19, u23, (ptr b34 0)] ++ (zs zf25 8 7 ++ [u19, u23, u28, (Value.agg #[(eN ((pgD (flipL (pgE (dataL la 48)) (placesL ll 32 32))).1)), u32]), (ptr b34 0), (eN ((pgD (flipL (pgE (dataL la 48)) (placesL ll 32 32))).1)), (Value.bool false)] ++ (zs zf25 22 14))) ?_
 refine wI (d_move rfl) ?_
 refine wI (d_lenS rfl Try.underlying23 rfl f24) ?_
 refine wI (n_gtr (a := ((placesL ll 32 32).length)) (b := 16) rfl rfl (decide_eq_false d0)) ?_
 refine wF (zs zf25 0 5 ++ [u19, u23, (ptr b34 0)] ++ (zs zf25 8 7 ++ [u19, u23, u28, (Value.agg #[(eN ((pgD (flipL (pgE (dataL la 48)) (placesL ll 32 32))).1)), u32]), (ptr b34 0), (eN ((pgD (flipL (pgE (dataL la 48)) (placesL ll 32 32))).1)), (Value.bool false), u23, (eN ((placesL ll 32 32).length)), (Value.bool false)] ++ (zs zf25 25 11))) ?_
 refine wI (d_beql Try.underlying4 rfl rfl rfl) ?_
 refine wI (d_move rfl) ?_
 refine wpL.onis rfl rfl rfl (nb rfl) rfl (d_move rfl) ?_
 refine wF (zs zf25 0 5 ++ [u19, u23, (ptr b34 0)] ++ (zs zf25 8 7 ++ [u19, u23, u28, (Value.agg #[(eN ((pgD (flipL (pgE (dataL la 48)) (placesL ll 32 32))).1)), u32]), (ptr b34 0), (eN ((pgD (flipL (pgE (dataL la 48)) (placesL ll 32 32))).1)), (Value.bool false), u23, (eN ((placesL ll 32 32).length)), (Value.bool false), (Value.bool true), (Value.bool true), u23] ++ (zs zf25 28 8))) ?_
 refine wpL.onis rfl rfl rfl (nb rfl) rfl (d_lenS rfl Try.underlying23 rfl f24) ?_
 refine wpL.onis rfl rfl rfl (nb rfl) rfl (n_gtr (a := ((placesL ll 32 32).length)) (b := 16) rfl rfl (decide_eq_false d0)) ?_
 refine wpL.onis rfl rfl rfl (nb rfl) rfl (d_move rfl) ?_
 refine wF (zs zf25 0 5 ++ [u19, u23, (ptr b34 0)] ++ (zs zf25 8 7 ++ [u19, u23, u28, (Value.agg #[(eN ((pgD (flipL (pgE (dataL la 48)) (placesL ll 32 32))).1)), u32]), (ptr b34 0), (eN ((pgD (flipL (pgE (dataL la 48)) (placesL ll 32 32))).1)), (Value.bool false), u23, (eN ((placesL ll 32 32).length)), (Value.bool false), (Value.bool true), (Value.bool true), u23, (eN ((placesL ll 32 32).length)), (Value.bool false), (Value.bool false)] ++ (zs zf25 31 5))) ?_
 refine wpL.onis rfl rfl rfl (nb rfl) rfl (d_fieldAddr (j := 0) Try.underlying32 rfl s_ti3 (by decide) rfl rfl) ?_
 refine wpL.onis rfl rfl rfl (nb rfl) rfl (d_load (v := (eN ((pgD (flipL (pgE (dataL la 48)) (placesL ll 32 32))).1))) ⟨_, Try.underlying3, rfl⟩ rfl a40 rfl) ?_
 refine wpL.onis rfl rfl rfl (nb rfl) rfl (n_eql (a := ((pgD (flipL (pgE (dataL la 48)) (placesL ll 32 32))).1)) (b := 2) rfl rfl (decide_eq_true (by rw [pg_blank (dataL_length la 48) ll, if_neg d0]))) ?_
 refine wF (zs zf25 0 5 ++ [u19, u23, (ptr b34 0)] ++ (zs zf25 8 7 ++ [u19, u23, u28, (Value.agg #[(eN ((pgD (flipL (pgE (dataL la 48)) (placesL ll 32 32))).1)), u32]), (ptr b34 0), (eN ((pgD (flipL (pgE (dataL la 48)) (placesL ll 32 32))).1)), (Value.bool false), u23, (eN ((placesL ll 32 32).length)), (Value.bool false), (Value.bool true), (Value.bool true), u23, (eN ((placesL ll 32 32).length)), (Value.bool false), (Value.bool false), (ptr b34 0), (eN ((pgD (flipL (pgE (dataL la 48)) (placesL ll 32 32))).1)), (Value.bool true), (zf25 34), (zf25 35)])) ?_
 refine wpL.onis rfl rfl rfl (nb rfl) rfl (d_pick (b := false) (v := (Value.bool true)) rfl rfl) ?_
 refine wI (d_pick (b := true) (v := (Value.bool true)) rfl rfl) ?_
 refine wI (d_assign rfl) ?_
 refine wF ([(zf25 0), (zf25 1), (zf25 2), (zf25 3), (Value.bool true), u19, u23, (ptr b34 0)] ++ (zs zf25 8 7 ++ [u19, u23, u28, (Value.agg #[(eN ((pgD (flipL (pgE (dataL la 48)) (placesL ll 32 32))).1)), u32]), (ptr b34 0), (eN ((pgD (flipL (pgE (dataL la 48)) (placesL ll 32 32))).1)), (Value.bool false), u23, (eN ((placesL ll 32 32).length)), (Value.bool false), (Value.bool true), (Value.bool true), u23, (eN ((placesL ll 32 32).length)), (Value.bool false), (Value.bool false), (ptr b34 0), (eN ((pgD (flipL (pgE (dataL la 48)) (placesL ll 32 32))).1)), (Value.bool true), (Value.bool true), (Value.bool true)])) ?_
 refine wpL.done ?_
 refine then_n ?_
 refine forget (fun zf43 => ([(zf43 0), (zf43 1), (zf43 2), (zf43 3), (Value.bool true)] ++ (zs zf43 5 31))) (by kernel_rfl) (fun zf43 => ?_)
 refine wpIn_ret ?_
 refine leave0 (v := (Value.bool true)) (res1 Try.results5 rfl) ?_
 exact ⟨rfl, oW⟩

end Go.Proofs.YtgalehapmdabeaaF
