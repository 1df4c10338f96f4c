import Derived.Test.YtkppgdbpadaegaaFl
import Derived.Test.YtkppgdbpadaegaaTy
import Derived.Test.YtkppgdbpadaegaaHutil
import Derived.Test.YtkppgdbpadaegaaMj
import Derived.Test.YtkppgdbpadaegaaHref4
set_option linter.unusedVariables false
set_option linter.unusedSimpArgs false
namespace Go.Proofs.YtkppgdbpadaegaaF
open Go Go.Shelf Go.Proofs.YtkppgdbpadaegaaS Ram
set_option maxRecDepth 20000 in
set_option maxHeartbeats 4000000 in
theorem bchDecodes_law (la : List UInt8) (ll : List Int) (lr : List UInt8) (u1 u2 u3 : Value) (W : World) (h1 : Ps No (Seq kB la u1) W) (h2 : Ps No (Seq kI ll u2) W) (h3 : Ps No (Seq kB lr u3) W) (g1 : la.length ≤ 140737488351232) (g2 : ll.length ≤ 140737488351232) (g3 : lr.length ≤ 140737488351232) :
    CW Try.prog 9 #[u1, u2, u3] W (Rt (RIs (.bool true) W)) := by
 have oW : Only No W W := Only.refl _ _
 refine enter (al := [u1, u2, u3]) (k := 79) (l := ([u1, u2, u3] ++ (us 79))) Try.func9 rfl Try.ntmps9 rfl rfl ?_
 refine wpIn_seq ?_
 refine plain ?_
 refine wpL.is rfl (d_assign rfl) ?_
 refine wpL.flat ([u1, u2, u3, undef, undef, undef, (Value.bool false)] ++ (us 75)) (by kernel_rfl) ?_
 refine wpL.done ?_
 refine then_n ?_
 refine wpIn_seq ?_
 refine wpIn_seq ?_
 refine plain ?_
 refine wpL.op rfl (d_call (xl := []) (al := []) Try.func13 (by kernel_rfl) rfl rfl rfl (l4known_ok _)) ?_
 rintro _ w11 ⟨rfl, o12⟩
 replace h1 := h1.step0 o12
 replace h2 := h2.step0 o12
 replace h3 := h3.step0 o12
 replace oW := oW.tail0 o12
 refine wpL.is rfl (d_not rfl rfl) ?_
 refine wpL.flat ([u1, u2, u3, undef, undef, undef, (Value.bool false)] ++ (us 8 ++ [(Value.bool true), (Value.bool false)] ++ (us 65))) (by kernel_rfl) ?_
 refine wpL.done ?_
 refine then_n ?_
 refine cond_f rfl ?_
 refine wpIn_skip ?_
 refine then_n ?_
 refine wpIn_seq ?_
 refine wpIn_seq ?_
 refine plain ?_
 refine wpL.is rfl (d_move rfl) ?_
 refine wpL.is rfl (d_lenS rfl Try.underlying22 rfl h3) ?_
 refine wpL.is rfl (n_gtr (a := lr.length) (b := 40) rfl rfl rfl) ?_
 refine wpL.flat ([u1, u2, u3, undef, undef, undef, (Value.bool false)] ++ (us 8 ++ [(Value.bool true), (Value.bool false), u3, (eN lr.length), (Value.bool (decide (40 < lr.length)))] ++ (us 62))) (by kernel_rfl) ?_
 refine wpL.done ?_
 refine then_n ?_
 refine cond_if rfl (fun k1 => ?_) (fun k1 => ?_)
 ·
  refine wpIn_seq ?_
  refine plain ?_
  refine wpL.is rfl (d_assign rfl) ?_
  refine wpL.flat ([u1, u2, u3, undef, undef, undef, (Value.bool true)] ++ (us 8 ++ [(Value.bool true), (Value.bool false), u3, (eN lr.length), (Value.bool (decide (40 < lr.length)))] ++ (us 62))) (by kernel_rfl) ?_
  refine wpL.done ?_
  refine then_n ?_
  refine forget (fun zf13 => (zs zf13 0 6 ++ [(Value.bool true), (zf13 7), undef] ++ (zs zf13 9 73))) (by kernel_rfl) (fun zf13 => ?_)
  refine wpIn_ret ?_
  refine then_r ?_
  refine leave0 (v := (Value.bool true)) (res1 Try.results9 rfl) ?_
  exact ⟨rfl, oW⟩
 ·
  refine wpIn_skip ?_
  refine then_n ?_
  refine wpIn_seq ?_
  refine plain ?_
  refine wpL.is rfl (d_move rfl) ?_
  refine wpL.op rfl (d_call (xl := [.tmp 20, .const (.int .i64 24)]) (al := [u1, (eN 24)]) Try.func14 (by kernel_rfl) rfl rfl rfl (l4Data_ok la 24 u1 _ (Ps.no h1) (by omega))) ?_
  rintro u16 w14 f17
  replace f17 := f17.ps
  obtain ⟨f17, o15⟩ := f17
  replace f17 := f17.less (Y := (Old W.heap.size)) (old_old oW.size)
  replace h1 := h1.step0 o15
  replace h2 := h2.step0 o15
  replace h3 := h3.step0 o15
  replace oW := oW.tail0 o15
  refine wpL.op rfl (d_call (xl := [.tmp 21]) (al := [u16]) Try.func22 (by kernel_rfl) rfl rfl rfl (ref4Enc_ok (dataL la 24) u16 _ (Ps.no f17) (by have := dataL_length la 24; first | omega | (simp; done) | (simp; omega)))) ?_
  rintro u20 w18 f21
  replace f21 := f21.ps
  obtain ⟨f21, o19⟩ := f21
  replace f21 := f21.less (Y := (Old W.heap.size)) (old_old oW.size)
  replace h1 := h1.step0 o19
  replace h2 := h2.step0 o19
  replace h3 := h3.step0 o19
  replace f17 := f17.step0 o19
  replace oW := oW.tail0 o19
  refine wpL.flat ([u1, u2, u3, undef, undef, undef, (Value.bool false)] ++ (us 8 ++ [(Value.bool true), (Value.bool false), u3, (eN lr.length), (Value.bool (decide (40 < lr.length))), u1, u16, u20] ++ (us 59))) (by kernel_rfl) ?_
  refine wpL.is rfl (d_move rfl) ?_
  refine wpL.op rfl (d_call (xl := [.tmp 23, .const (.int .i64 224), .const (.int .i64 9)]) (al := [u2, (eN 224), (eN 9)]) Try.func25 (by kernel_rfl) rfl rfl rfl (l4Places_ok ll 224 9 u2 _ (Ps.no h2) (by omega) (by omega) (by omega) (by omega))) ?_
  rintro u24 w22 f25
  replace f25 := f25.ps
  obtain ⟨f25, o23⟩ := f25
  replace f25 := f25.less (Y := (Old W.heap.size)) (old_old oW.size)
  replace h1 := h1.step0 o23
  replace h2 := h2.step0 o23
  replace h3 := h3.step0 o23
  replace f17 := f17.step0 o23
  replace f21 := f21.step0 o23
  replace oW := oW.tail0 o23
  refine wpL.op rfl (d_call (xl := [.tmp 22, .tmp 24]) (al := [u20, u24]) Try.func24 (by kernel_rfl) rfl rfl rfl (ref6Flip_ok (encR (dataL la 24)) (placesL ll 224 9) u20 u24 _ (Ps.no f21) (Ps.no f25) (by have := dataL_length la 24; have := encR_len (dataL la 24); first | omega | (simp; done) | (simp; omega)) (by have := places_le ll 224 9; first | omega | (simp; done) | (simp; omega)) (in_place (encR_length (dataL_length _ _)) _ _))) ?_
  rintro u28 w26 f29
  replace f29 := f29.ps
  obtain ⟨f29, o27⟩ := f29
  replace f29 := f29.less (Y := (Old W.heap.size)) (old_old oW.size)
  replace h1 := h1.step0 o27
  replace h2 := h2.step0 o27
  replace h3 := h3.step0 o27
  replace f17 := f17.step0 o27
  replace f21 := f21.step0 o27
  replace f25 := f25.step0 o27
  replace oW := oW.tail0 o27
  refine wpL.flat ([u1, u2, u3, undef, undef, undef, (Value.bool false)] ++ (us 8 ++ [(Value.bool true), (Value.bool false), u3, (eN lr.length), (Value.bool (decide (40 < lr.length))), u1, u16, u20, u2, u24, u28] ++ (us 56))) (by kernel_rfl) ?_
  refine wpL.is rfl (d_move rfl) ?_
  refine wpL.op rfl (d_call (xl := [.tmp 26, .const (.int .i64 28)]) (al := [u3, (eN 28)]) Try.func14 (by kernel_rfl) rfl rfl rfl (l4Data_ok lr 28 u3 _ (Ps.no h3) (by omega))) ?_
  rintro u32 w30 f33
  replace f33 := f33.ps
  obtain ⟨f33, o31⟩ := f33
  replace f33 := f33.less (Y := (Old W.heap.size)) (old_old oW.size)
  replace h1 := h1.step0 o31
  replace h2 := h2.step0 o31
  replace h3 := h3.step0 o31
  replace f17 := f17.step0 o31
  replace f21 := f21.step0 o31
  replace f25 := f25.step0 o31
  replace f29 := f29.step0 o31
  replace oW := oW.tail0 o31
  refine wpL.is rfl (d_move rfl) ?_
  refine wpL.flat ([u1, u2, u3, undef, undef, undef, (Value.bool false)] ++ (us 8 ++ [(Value.bool true), (Value.bool false), u3, (eN lr.length), (Value.bool (decide (40 < lr.length))), u1, u16, u20, u2, u24, u28, u3, u32, u3] ++ (us 53))) (by kernel_rfl) ?_
  refine wpL.op rfl (d_buildL (cs := [u28, u32, u3]) Try.underlying43 s_ti22 rfl (Nat.le_of_ble_eq_true rfl) (parts_cons (vs := [u28]) (cells_of (v := u28) rfl (Seq.cells f29)) (parts_cons (vs := [u32]) (cells_of (v := u32) rfl (Seq.cells f33)) (parts_cons (vs := [u3]) (cells_of (v := u3) rfl (Seq.cells h3)) parts_nil))) rfl) ?_
  rintro _ w35 ⟨b34, rfl, g36, a37, o38⟩
  have g_oW_b34 : W.heap.size ≤ b34 := Nat.le_trans oW.size g36
  replace h1 := h1.new o38 g36
  replace h2 := h2.new o38 g36
  replace h3 := h3.new o38 g36
  replace f17 := f17.new o38 g36
  replace f21 := f21.new o38 g36
  replace f25 := f25.new o38 g36
  replace f29 := f29.new o38 g36
  replace f33 := f33.new o38 g36
  replace oW := oW.tail0 o38
  refine wpL.is rfl (d_assign rfl) ?_
  refine wpL.flat ([u1, u2, u3, undef, undef, undef, (Value.bool false), (sli b34 0 3 3)] ++ (us 7 ++ [(Value.bool true), (Value.bool false), u3, (eN lr.length), (Value.bool (decide (40 < lr.length))), u1, u16, u20, u2, u24, u28, u3, u32, u3, (sli b34 0 3 3)] ++ (us 52))) (by kernel_rfl) ?_
  refine wpL.done ?_
  have hw_ : (flipL (encR (dataL la 24)) (placesL ll 224 9)).length = 28 := by rw [flipL_length]; exact encR_length (dataL_length la 24)
  have hv_ := dataL_length lr 28
  refine then_n ?_
  refine forget (fun zf39 => (zs zf39 0 7 ++ [(sli b34 0 3 3), undef] ++ (zs zf39 9 60 ++ (us 12 ++ [(zf39 81)])))) (by kernel_rfl) (fun zf39 => ?_)
  refine wpIn_seq ?_
  refine wpIn_seq ?_
  refine plain ?_
  refine wpL.is rfl (d_assign rfl) ?_
  refine wpL.flat (zs zf39 0 7 ++ [(sli b34 0 3 3), (eN 0)] ++ (zs zf39 9 60 ++ (us 12 ++ [(zf39 81)]))) (by kernel_rfl) ?_
  refine wpL.done ?_
  refine then_n ?_
  refine wpIn_block ?_
  refine loop2 (fun (i : (Nat)) => fun (z : Nat → Value) => ((zs zf39 0 6 ++ [(z 6), (sli b34 0 3 3), (eN i)] ++ (zs z 9 6 ++ (zs zf39 15 15 ++ (zs z 30 52)))) : List Value)) (fun (i : (Nat)) => fun (w_ : World) => (i ≤ 3) ∧ Only (Or1 b34 No) w35 w_ ∧ Arr 22 b34 [u28, u32, u3] w_) (fun (i : (Nat)) => 3 - i) 0 rfl ?_ ?_
  ·
   refine ⟨?_, ?_, ?_⟩
   ·
    (try dsimp only)
    all_goals (omega)
   ·
    (try dsimp only)
    all_goals (exact Only.refl _ _)
   ·
    (try dsimp only)
    all_goals (exact a37)
  ·
   rintro i z w41 ⟨hi, o40, a37⟩
   (try dsimp only)
   replace h1 := h1.step o40 (or1_mono no_any)
   replace h2 := h2.step o40 (or1_mono no_any)
   replace h3 := h3.step o40 (or1_mono no_any)
   replace f17 := f17.step o40 (or1_mono no_any)
   replace f21 := f21.step o40 (or1_mono no_any)
   replace f25 := f25.step o40 (or1_mono no_any)
   replace f29 := f29.step o40 (or1_mono no_any)
   replace f33 := f33.step o40 (or1_mono no_any)
   replace oW := oW.tail o40 (tl_new g_oW_b34 tl_no)
   refine wpIn_seq ?_
   refine wpIn_seq ?_
   refine plain ?_
   refine wpL.is rfl (d_move rfl) ?_
   refine wpL.is rfl (n_lss (a := i) (b := 3) rfl rfl rfl) ?_
   refine wpL.flat (zs zf39 0 6 ++ [(z 6), (sli b34 0 3 3), (eN i)] ++ (zs z 9 6 ++ (zs zf39 15 15 ++ [(eN i), (Value.bool (decide (i < 3)))] ++ (zs z 32 50)))) (by kernel_rfl) ?_
   refine wpL.done ?_
   refine then_n ?_
   refine cond_if rfl (fun c0 => ?_) (fun c0 => ?_)
   ·
    refine wpIn_skip ?_
    refine then_n ?_
    refine wpIn_seq ?_
    refine wpIn_block ?_
    refine wpIn_seq ?_
    by_cases e0 : i = 0
    ·
     subst e0
     refine wp_eq (l' := (zs zf39 0 6 ++ [(z 6), (sli b34 0 3 3), (eN 0)] ++ (zs z 9 6 ++ (zs zf39 15 15 ++ [(eN 0), (Value.bool (decide (0 < 3)))] ++ (zs z 32 50))))) rfl ?_
     refine plain ?_
     refine wpL.op rfl (d_buildL (cs := []) Try.underlying22 s_ti5 rfl (Nat.le_of_ble_eq_true rfl) parts_nil rfl) ?_
     rintro _ w43 ⟨b42, rfl, g44, a45, o46⟩
     replace a45 : Arr 5 b42 (([] : List UInt8).map eB) w43 := a45
     have l_b42 : ([] : List UInt8).length = 0 := rfl
     have n_b34_b42 : b34 ≠ b42 := a37.ne g44
     have g_oW_b42 : W.heap.size ≤ b42 := Nat.le_trans oW.size g44
     have g_o40_b42 : w35.heap.size ≤ b42 := Nat.le_trans o40.size g44
     replace h1 := h1.new o46 g44
     replace h2 := h2.new o46 g44
     replace h3 := h3.new o46 g44
     replace f17 := f17.new o46 g44
     replace f21 := f21.new o46 g44
     replace f25 := f25.new o46 g44
     replace f29 := f29.new o46 g44
     replace f33 := f33.new o46 g44
     replace a37 := a37.step0 o46
     replace oW := oW.tail0 o46
     replace o40 := o40.tail0 o46
     refine wpL.is rfl (d_move rfl) ?_
     refine wpL.is rfl (d_move rfl) ?_
     refine wpL.flat (zs zf39 0 6 ++ [(z 6), (sli b34 0 3 3), (eN 0)] ++ (zs z 9 6 ++ (zs zf39 15 15 ++ [(eN 0), (Value.bool (decide (0 < 3))), (z 32), (z 33), (z 34), (sli b42 0 0 0), (sli b34 0 3 3), (eN 0)] ++ (zs z 38 44)))) (by kernel_rfl) ?_
     refine wpL.is rfl (d_index1 (n := 3) (i := 0) Try.underlying43 s_ti22 rfl (show _ = Value.int _ ((0 : Nat) : Int) from rfl) (by omega)) ?_
     refine wpL.is rfl (d_load (v := u28) ⟨_, Try.underlying22, rfl⟩ rfl a37 rfl) ?_
     have a47 := Ow.of_map2 a45 l_b42
     have nq_cp_b34 := nq_b (Ne.symm n_b34_b42)
     have q_oW_cp : Fr (some b42) none W.heap.size := Fr.new g_oW_b42
     have q_o40_cp : Fr (some b42) none w35.heap.size := Fr.new g_o40_b42
     replace h1 := h1.less (Y := (Orq (some b42) (Or1 b34 No))) (xx_br (xx_or1 xx_id))
     replace h2 := h2.less (Y := (Orq (some b42) (Or1 b34 No))) (xx_br (xx_or1 xx_id))
     replace h3 := h3.less (Y := (Orq (some b42) (Or1 b34 No))) (xx_br (xx_or1 xx_id))
     replace f17 := f17.less (Y := (Orq (some b42) (Or1 b34 (Old W.heap.size)))) (xx_br (xx_or1 xx_id))
     replace f21 := f21.less (Y := (Orq (some b42) (Or1 b34 (Old W.heap.size)))) (xx_br (xx_or1 xx_id))
     replace f25 := f25.less (Y := (Orq (some b42) (Or1 b34 (Old W.heap.size)))) (xx_br (xx_or1 xx_id))
     replace f29 := f29.less (Y := (Orq (some b42) (Or1 b34 (Old W.heap.size)))) (xx_br (xx_or1 xx_id))
     replace f33 := f33.less (Y := (Orq (some b42) (Or1 b34 (Old W.heap.size)))) (xx_br (xx_or1 xx_id))
     refine wpL.op rfl (d_append Try.underlying22 Try.underlying22 s_ti5 rfl rfl rfl a47 (SrcV.of_seq f29 (fun _ => rfl)) (by simp only [List.length_nil, flipL_length, dataL_length]; (try have := encR_len (dataL la 24)); omega) (by simp only [List.length_nil, flipL_length, dataL_length]; (try have := encR_len (dataL la 24)); omega) rfl) ?_
     rintro u48 w49 ⟨bo50, a51, o52, q53⟩
     replace a51 : Ow 5 1 bo50 u48 ((flipL (encR (dataL la 24)) (placesL ll 224 9))).length (((flipL (encR (dataL la 24)) (placesL ll 224 9))).map eB) w49 := by simpa using a51
     replace h1 := h1.gr o52 (fun k e => (.inl e)) (xx_re (Fr.of_or q53) (xx_or1 xx_id))
     replace h2 := h2.gr o52 (fun k e => (.inl e)) (xx_re (Fr.of_or q53) (xx_or1 xx_id))
     replace h3 := h3.gr o52 (fun k e => (.inl e)) (xx_re (Fr.of_or q53) (xx_or1 xx_id))
     replace f17 := f17.gr o52 (fun k e => (.inl e)) (xx_re (Fr.of_or q53) (xx_or1 xx_id))
     replace f21 := f21.gr o52 (fun k e => (.inl e)) (xx_re (Fr.of_or q53) (xx_or1 xx_id))
     replace f25 := f25.gr o52 (fun k e => (.inl e)) (xx_re (Fr.of_or q53) (xx_or1 xx_id))
     replace f29 := f29.gr o52 (fun k e => (.inl e)) (xx_re (Fr.of_or q53) (xx_or1 xx_id))
     replace f33 := f33.gr o52 (fun k e => (.inl e)) (xx_re (Fr.of_or q53) (xx_or1 xx_id))
     have nq2 := nqs nq_cp_b34 (Fr.of_or q53) a37.lt
     replace a37 := a37.step o52 (fun e => nq_cp_b34 _ e rfl)
     replace nq_cp_b34 := nq2
     clear nq2
     have tq := oW.size
     replace oW := oW.tailr o52 q_oW_cp (fun _ e => by cases e)
     replace q_oW_cp := qtr (Fr.of_or q53) q_oW_cp tq
     clear tq
     have tq := o40.size
     replace o40 := o40.tailr o52 q_o40_cp (fun _ e => by cases e)
     replace q_o40_cp := qtr (Fr.of_or q53) q_o40_cp tq
     clear tq
     refine wpL.flat (zs zf39 0 6 ++ [(z 6), (sli b34 0 3 3), (eN 0)] ++ (zs z 9 6 ++ (zs zf39 15 15 ++ [(eN 0), (Value.bool (decide (0 < 3))), (z 32), (z 33), (z 34), (sli b42 0 0 0), (sli b34 0 3 3), (eN 0), (ptr b34 0), u28, u48] ++ (zs z 41 41)))) (by kernel_rfl) ?_
     refine wpL.op rfl (d_call (xl := [.tmp 40]) (al := [u48]) Try.func29 (by kernel_rfl) rfl rfl rfl (bchDecode_ok (flipL (encR (dataL la 24)) (placesL ll 224 9)) u48 _ (Ps.no (a51.seq (X := No) (fun _ _ h => h))) (by have := flipL_length (encR (dataL la 24)) (placesL ll 224 9); have := places_le ll 224 9; have := dataL_length la 24; have := encR_len (dataL la 24); first | omega | (simp; done) | (simp; omega)))) ?_
     rintro _ w54 ⟨u56, rfl, f57, o55⟩
     replace f57 := f57.less (Y := (Orq bo50 (Or1 b34 (Old W.heap.size)))) (orq_old (fun x hx => by subst hx; exact a51.lt) (or1_old a37.lt (old_old oW.size)))
     replace h1 := h1.step0 o55
     replace h2 := h2.step0 o55
     replace h3 := h3.step0 o55
     replace f17 := f17.step0 o55
     replace f21 := f21.step0 o55
     replace f25 := f25.step0 o55
     replace f29 := f29.step0 o55
     replace f33 := f33.step0 o55
     replace a37 := a37.step0 o55
     replace a51 := a51.step0 o55
     replace oW := oW.tail0 o55
     replace o40 := o40.tail0 o55
     refine wpL.is rfl (d_move rfl) ?_
     refine wpL.is rfl (d_extract (v := u56) rfl rfl) ?_
     refine wpL.flat (zs zf39 0 6 ++ [(z 6), (sli b34 0 3 3), (eN 0)] ++ (zs z 9 6 ++ (zs zf39 15 15 ++ [(eN 0), (Value.bool (decide (0 < 3))), (z 32), (z 33), (Value.tuple #[u56, (eN (decN (flipL (encR (dataL la 24)) (placesL ll 224 9)))), (Value.bool (decB (flipL (encR (dataL la 24)) (placesL ll 224 9))))]), (sli b42 0 0 0), (sli b34 0 3 3), (eN 0), (ptr b34 0), u28, u48, (Value.tuple #[u56, (eN (decN (flipL (encR (dataL la 24)) (placesL ll 224 9)))), (Value.bool (decB (flipL (encR (dataL la 24)) (placesL ll 224 9))))]), u56] ++ (zs z 43 39)))) (by kernel_rfl) ?_
     refine wpL.is rfl (d_extract (v := (eN (decN (flipL (encR (dataL la 24)) (placesL ll 224 9))))) rfl rfl) ?_
     refine wpL.is rfl (d_extract (v := (Value.bool (decB (flipL (encR (dataL la 24)) (placesL ll 224 9))))) rfl rfl) ?_
     refine wpL.is rfl (d_assign rfl) ?_
     refine wpL.flat (zs zf39 0 6 ++ [(z 6), (sli b34 0 3 3), (eN 0), u56] ++ (zs z 10 5 ++ (zs zf39 15 15 ++ [(eN 0), (Value.bool (decide (0 < 3))), (z 32), (z 33), (Value.tuple #[u56, (eN (decN (flipL (encR (dataL la 24)) (placesL ll 224 9)))), (Value.bool (decB (flipL (encR (dataL la 24)) (placesL ll 224 9))))]), (sli b42 0 0 0), (sli b34 0 3 3), (eN 0), (ptr b34 0), u28, u48, (Value.tuple #[u56, (eN (decN (flipL (encR (dataL la 24)) (placesL ll 224 9)))), (Value.bool (decB (flipL (encR (dataL la 24)) (placesL ll 224 9))))]), u56, (eN (decN (flipL (encR (dataL la 24)) (placesL ll 224 9)))), (Value.bool (decB (flipL (encR (dataL la 24)) (placesL ll 224 9))))] ++ (zs z 45 37)))) (by kernel_rfl) ?_
     refine wpL.is rfl (d_assign rfl) ?_
     refine wpL.is rfl (d_assign rfl) ?_
     refine wpL.flat (zs zf39 0 6 ++ [(z 6), (sli b34 0 3 3), (eN 0), u56, (eN (decN (flipL (encR (dataL la 24)) (placesL ll 224 9)))), (Value.bool (decB (flipL (encR (dataL la 24)) (placesL ll 224 9)))), (z 12), (z 13), (z 14)] ++ (zs zf39 15 15 ++ [(eN 0), (Value.bool (decide (0 < 3))), (z 32), (z 33), (Value.tuple #[u56, (eN (decN (flipL (encR (dataL la 24)) (placesL ll 224 9)))), (Value.bool (decB (flipL (encR (dataL la 24)) (placesL ll 224 9))))]), (sli b42 0 0 0), (sli b34 0 3 3), (eN 0), (ptr b34 0), u28, u48, (Value.tuple #[u56, (eN (decN (flipL (encR (dataL la 24)) (placesL ll 224 9)))), (Value.bool (decB (flipL (encR (dataL la 24)) (placesL ll 224 9))))]), u56, (eN (decN (flipL (encR (dataL la 24)) (placesL ll 224 9)))), (Value.bool (decB (flipL (encR (dataL la 24)) (placesL ll 224 9))))] ++ (zs z 45 37))) (by kernel_rfl) ?_
     refine wpL.done ?_
     refine then_n ?_
     refine forget (fun zf62 => (zs zf39 0 6 ++ [(zf62 6), (sli b34 0 3 3), (eN 0), u56, (eN (decN (flipL (encR (dataL la 24)) (placesL ll 224 9)))), (Value.bool (decB (flipL (encR (dataL la 24)) (placesL ll 224 9)))), (zf62 12), (zf62 13), (zf62 14)] ++ (zs zf39 15 15 ++ (zs zf62 30 39 ++ (zs z 69 12 ++ [(zf62 81)]))))) (by kernel_rfl) (fun zf62 => ?_)
     refine wpIn_seq ?_
     refine plain ?_
     refine wpL.is rfl (d_move rfl) ?_
     refine wpL.is rfl (d_move rfl) ?_
     refine wpL.is rfl (d_index1 (n := 3) (i := 0) Try.underlying43 s_ti22 rfl (show _ = Value.int _ ((0 : Nat) : Int) from rfl) (by omega)) ?_
     refine wpL.flat (zs zf39 0 6 ++ [(zf62 6), (sli b34 0 3 3), (eN 0), u56, (eN (decN (flipL (encR (dataL la 24)) (placesL ll 224 9)))), (Value.bool (decB (flipL (encR (dataL la 24)) (placesL ll 224 9)))), (zf62 12), (zf62 13), (zf62 14)] ++ (zs zf39 15 15 ++ (zs zf62 30 16 ++ [(sli b34 0 3 3), (eN 0), (ptr b34 0)] ++ (zs zf62 49 20 ++ (zs z 69 12 ++ [(zf62 81)]))))) (by kernel_rfl) ?_
     refine wpL.is rfl (d_load (v := u28) ⟨_, Try.underlying22, rfl⟩ rfl a37 rfl) ?_
     refine wpL.op rfl (d_call (xl := [.tmp 49]) (al := [u28]) Try.func30 (by kernel_rfl) rfl rfl rfl (ref4Decode_ok (flipL (encR (dataL la 24)) (placesL ll 224 9)) u28 _ (Ps.no f29) (by have := flipL_length (encR (dataL la 24)) (placesL ll 224 9); have := places_le ll 224 9; have := dataL_length la 24; have := encR_len (dataL la 24); first | omega | (simp; done) | (simp; omega)))) ?_
     rintro _ w63 ⟨u65, rfl, f66, o64⟩
     replace f66 := f66.less (Y := (Orq bo50 (Or1 b34 (Old W.heap.size)))) (orq_old (fun x hx => by subst hx; exact a51.lt) (or1_old a37.lt (old_old oW.size)))
     replace h1 := h1.step0 o64
     replace h2 := h2.step0 o64
     replace h3 := h3.step0 o64
     replace f17 := f17.step0 o64
     replace f21 := f21.step0 o64
     replace f25 := f25.step0 o64
     replace f29 := f29.step0 o64
     replace f33 := f33.step0 o64
     replace f57 := f57.step0 o64
     replace a37 := a37.step0 o64
     replace a51 := a51.step0 o64
     replace oW := oW.tail0 o64
     replace o40 := o40.tail0 o64
     refine wpL.is rfl (d_move rfl) ?_
     refine wpL.flat (zs zf39 0 6 ++ [(zf62 6), (sli b34 0 3 3), (eN 0), u56, (eN (decN (flipL (encR (dataL la 24)) (placesL ll 224 9)))), (Value.bool (decB (flipL (encR (dataL la 24)) (placesL ll 224 9)))), (zf62 12), (zf62 13), (zf62 14)] ++ (zs zf39 15 15 ++ (zs zf62 30 15 ++ [(Value.tuple #[u65, (eN (decN (flipL (encR (dataL la 24)) (placesL ll 224 9)))), (Value.bool (decB (flipL (encR (dataL la 24)) (placesL ll 224 9))))]), (sli b34 0 3 3), (eN 0), (ptr b34 0), u28, (Value.tuple #[u65, (eN (decN (flipL (encR (dataL la 24)) (placesL ll 224 9)))), (Value.bool (decB (flipL (encR (dataL la 24)) (placesL ll 224 9))))])] ++ (zs zf62 51 18 ++ (zs z 69 12 ++ [(zf62 81)]))))) (by kernel_rfl) ?_
     refine wpL.is rfl (d_extract (v := u65) rfl rfl) ?_
     refine wpL.is rfl (d_extract (v := (eN (decN (flipL (encR (dataL la 24)) (placesL ll 224 9))))) rfl rfl) ?_
     refine wpL.is rfl (d_extract (v := (Value.bool (decB (flipL (encR (dataL la 24)) (placesL ll 224 9))))) rfl rfl) ?_
     refine wpL.flat (zs zf39 0 6 ++ [(zf62 6), (sli b34 0 3 3), (eN 0), u56, (eN (decN (flipL (encR (dataL la 24)) (placesL ll 224 9)))), (Value.bool (decB (flipL (encR (dataL la 24)) (placesL ll 224 9)))), (zf62 12), (zf62 13), (zf62 14)] ++ (zs zf39 15 15 ++ (zs zf62 30 15 ++ [(Value.tuple #[u65, (eN (decN (flipL (encR (dataL la 24)) (placesL ll 224 9)))), (Value.bool (decB (flipL (encR (dataL la 24)) (placesL ll 224 9))))]), (sli b34 0 3 3), (eN 0), (ptr b34 0), u28, (Value.tuple #[u65, (eN (decN (flipL (encR (dataL la 24)) (placesL ll 224 9)))), (Value.bool (decB (flipL (encR (dataL la 24)) (placesL ll 224 9))))]), u65, (eN (decN (flipL (encR (dataL la 24)) (placesL ll 224 9)))), (Value.bool (decB (flipL (encR (dataL la 24)) (placesL ll 224 9))))] ++ (zs zf62 54 15 ++ (zs z 69 12 ++ [(zf62 81)]))))) (by kernel_rfl) ?_
     refine wpL.is rfl (d_assign rfl) ?_
     refine wpL.is rfl (d_assign rfl) ?_
     refine wpL.is rfl (d_assign rfl) ?_
     refine wpL.flat (zs zf39 0 6 ++ [(zf62 6), (sli b34 0 3 3), (eN 0), u56, (eN (decN (flipL (encR (dataL la 24)) (placesL ll 224 9)))), (Value.bool (decB (flipL (encR (dataL la 24)) (placesL ll 224 9)))), u65, (eN (decN (flipL (encR (dataL la 24)) (placesL ll 224 9)))), (Value.bool (decB (flipL (encR (dataL la 24)) (placesL ll 224 9))))] ++ (zs zf39 15 15 ++ (zs zf62 30 15 ++ [(Value.tuple #[u65, (eN (decN (flipL (encR (dataL la 24)) (placesL ll 224 9)))), (Value.bool (decB (flipL (encR (dataL la 24)) (placesL ll 224 9))))]), (sli b34 0 3 3), (eN 0), (ptr b34 0), u28, (Value.tuple #[u65, (eN (decN (flipL (encR (dataL la 24)) (placesL ll 224 9)))), (Value.bool (decB (flipL (encR (dataL la 24)) (placesL ll 224 9))))]), u65, (eN (decN (flipL (encR (dataL la 24)) (placesL ll 224 9)))), (Value.bool (decB (flipL (encR (dataL la 24)) (placesL ll 224 9))))] ++ (zs zf62 54 15 ++ (zs z 69 12 ++ [(zf62 81)]))))) (by kernel_rfl) ?_
     refine wpL.done ?_
     refine then_n ?_
     refine forget (fun zf71 => (zs zf39 0 6 ++ [(zf71 6), (sli b34 0 3 3), (eN 0), u56, (eN (decN (flipL (encR (dataL la 24)) (placesL ll 224 9)))), (Value.bool (decB (flipL (encR (dataL la 24)) (placesL ll 224 9)))), u65, (eN (decN (flipL (encR (dataL la 24)) (placesL ll 224 9)))), (Value.bool (decB (flipL (encR (dataL la 24)) (placesL ll 224 9))))] ++ (zs zf39 15 15 ++ (zs zf71 30 39 ++ (zs z 69 12 ++ [(zf71 81)]))))) (by kernel_rfl) (fun zf71 => ?_)
     refine wpIn_seq ?_
     refine wpIn_seq ?_
     refine plain ?_
     refine wpL.is rfl (d_move rfl) ?_
     refine wpL.is rfl (d_str Try.underlying22 Try.underlying5 Try.underlying9 rfl f57) ?_
     refine wpL.is rfl (d_move rfl) ?_
     refine wpL.flat (zs zf39 0 6 ++ [(zf71 6), (sli b34 0 3 3), (eN 0), u56, (eN (decN (flipL (encR (dataL la 24)) (placesL ll 224 9)))), (Value.bool (decB (flipL (encR (dataL la 24)) (placesL ll 224 9)))), u65, (eN (decN (flipL (encR (dataL la 24)) (placesL ll 224 9)))), (Value.bool (decB (flipL (encR (dataL la 24)) (placesL ll 224 9))))] ++ (zs zf39 15 15 ++ (zs zf71 30 24 ++ [u56, (Value.string (strOf (decD (flipL (encR (dataL la 24)) (placesL ll 224 9))))), u65] ++ (zs zf71 57 12 ++ (zs z 69 12 ++ [(zf71 81)]))))) (by kernel_rfl) ?_
     refine wpL.is rfl (d_str Try.underlying22 Try.underlying5 Try.underlying9 rfl f66) ?_
     refine wpL.is rfl (d_sneq (a := (decD (flipL (encR (dataL la 24)) (placesL ll 224 9)))) (c := (decD (flipL (encR (dataL la 24)) (placesL ll 224 9)))) rfl rfl (by rw [decide_eq_true rfl] <;> rfl)) ?_
     refine wpL.is rfl (d_move rfl) ?_
     refine wpL.flat (zs zf39 0 6 ++ [(zf71 6), (sli b34 0 3 3), (eN 0), u56, (eN (decN (flipL (encR (dataL la 24)) (placesL ll 224 9)))), (Value.bool (decB (flipL (encR (dataL la 24)) (placesL ll 224 9)))), u65, (eN (decN (flipL (encR (dataL la 24)) (placesL ll 224 9)))), (Value.bool (decB (flipL (encR (dataL la 24)) (placesL ll 224 9))))] ++ (zs zf39 15 15 ++ (zs zf71 30 24 ++ [u56, (Value.string (strOf (decD (flipL (encR (dataL la 24)) (placesL ll 224 9))))), u65, (Value.string (strOf (decD (flipL (encR (dataL la 24)) (placesL ll 224 9))))), (Value.bool false), (Value.bool false)] ++ (zs zf71 60 9 ++ (zs z 69 12 ++ [(zf71 81)]))))) (by kernel_rfl) ?_
     refine wpL.onis rfl rfl rfl (Nat.le_of_ble_eq_true rfl) rfl (d_move rfl) ?_
     refine wpL.onis rfl rfl rfl (Nat.le_of_ble_eq_true rfl) rfl (d_move rfl) ?_
     refine wpL.onis rfl rfl rfl (Nat.le_of_ble_eq_true rfl) rfl (n_neq (a := (decN (flipL (encR (dataL la 24)) (placesL ll 224 9)))) (b := (decN (flipL (encR (dataL la 24)) (placesL ll 224 9)))) rfl rfl (by rw [decide_eq_true rfl] <;> rfl)) ?_
     refine wpL.flat (zs zf39 0 6 ++ [(zf71 6), (sli b34 0 3 3), (eN 0), u56, (eN (decN (flipL (encR (dataL la 24)) (placesL ll 224 9)))), (Value.bool (decB (flipL (encR (dataL la 24)) (placesL ll 224 9)))), u65, (eN (decN (flipL (encR (dataL la 24)) (placesL ll 224 9)))), (Value.bool (decB (flipL (encR (dataL la 24)) (placesL ll 224 9))))] ++ (zs zf39 15 15 ++ (zs zf71 30 24 ++ [u56, (Value.string (strOf (decD (flipL (encR (dataL la 24)) (placesL ll 224 9))))), u65, (Value.string (strOf (decD (flipL (encR (dataL la 24)) (placesL ll 224 9))))), (Value.bool false), (Value.bool false), (eN (decN (flipL (encR (dataL la 24)) (placesL ll 224 9)))), (eN (decN (flipL (encR (dataL la 24)) (placesL ll 224 9)))), (Value.bool false)] ++ (zs zf71 63 6 ++ (zs z 69 12 ++ [(zf71 81)]))))) (by kernel_rfl) ?_
     refine wpL.is rfl (d_pick (b := false) (v := (Value.bool false)) rfl rfl) ?_
     refine wpL.is rfl (d_move rfl) ?_
     refine wpL.onis rfl rfl rfl (Nat.le_of_ble_eq_true rfl) rfl (d_move rfl) ?_
     refine wpL.flat (zs zf39 0 6 ++ [(zf71 6), (sli b34 0 3 3), (eN 0), u56, (eN (decN (flipL (encR (dataL la 24)) (placesL ll 224 9)))), (Value.bool (decB (flipL (encR (dataL la 24)) (placesL ll 224 9)))), u65, (eN (decN (flipL (encR (dataL la 24)) (placesL ll 224 9)))), (Value.bool (decB (flipL (encR (dataL la 24)) (placesL ll 224 9))))] ++ (zs zf39 15 15 ++ (zs zf71 30 24 ++ [u56, (Value.string (strOf (decD (flipL (encR (dataL la 24)) (placesL ll 224 9))))), u65, (Value.string (strOf (decD (flipL (encR (dataL la 24)) (placesL ll 224 9))))), (Value.bool false), (Value.bool false), (eN (decN (flipL (encR (dataL la 24)) (placesL ll 224 9)))), (eN (decN (flipL (encR (dataL la 24)) (placesL ll 224 9)))), (Value.bool false), (Value.bool false), (Value.bool false), (Value.bool (decB (flipL (encR (dataL la 24)) (placesL ll 224 9)))), (zf71 66), (zf71 67), (zf71 68)] ++ (zs z 69 12 ++ [(zf71 81)])))) (by kernel_rfl) ?_
     refine wpL.onis rfl rfl rfl (Nat.le_of_ble_eq_true rfl) rfl (d_move rfl) ?_
     refine wpL.onis rfl rfl rfl (Nat.le_of_ble_eq_true rfl) rfl (d_bneq Try.underlying4 rfl rfl (bne_self_eq_false _)) ?_
     refine wpL.is rfl (d_pick (b := false) (v := (Value.bool false)) rfl rfl) ?_
     refine wpL.flat (zs zf39 0 6 ++ [(zf71 6), (sli b34 0 3 3), (eN 0), u56, (eN (decN (flipL (encR (dataL la 24)) (placesL ll 224 9)))), (Value.bool (decB (flipL (encR (dataL la 24)) (placesL ll 224 9)))), u65, (eN (decN (flipL (encR (dataL la 24)) (placesL ll 224 9)))), (Value.bool (decB (flipL (encR (dataL la 24)) (placesL ll 224 9))))] ++ (zs zf39 15 15 ++ (zs zf71 30 24 ++ [u56, (Value.string (strOf (decD (flipL (encR (dataL la 24)) (placesL ll 224 9))))), u65, (Value.string (strOf (decD (flipL (encR (dataL la 24)) (placesL ll 224 9))))), (Value.bool false), (Value.bool false), (eN (decN (flipL (encR (dataL la 24)) (placesL ll 224 9)))), (eN (decN (flipL (encR (dataL la 24)) (placesL ll 224 9)))), (Value.bool false), (Value.bool false), (Value.bool false), (Value.bool (decB (flipL (encR (dataL la 24)) (placesL ll 224 9)))), (Value.bool (decB (flipL (encR (dataL la 24)) (placesL ll 224 9)))), (Value.bool false), (Value.bool false)] ++ (zs z 69 12 ++ [(zf71 81)])))) (by kernel_rfl) ?_
     refine wpL.done ?_
     refine then_n ?_
     refine forget (fun zf72 => (zs zf39 0 6 ++ [(zf72 6), (sli b34 0 3 3), (eN 0), u56, (eN (decN (flipL (encR (dataL la 24)) (placesL ll 224 9)))), (Value.bool (decB (flipL (encR (dataL la 24)) (placesL ll 224 9)))), (zf72 12), (zf72 13), (zf72 14)] ++ (zs zf39 15 15 ++ (zs zf72 30 38 ++ [(Value.bool false)] ++ (zs z 69 12 ++ [(zf72 81)]))))) (by kernel_rfl) (fun zf72 => ?_)
     refine cond_f rfl ?_
     refine wpIn_skip ?_
     refine then_n ?_
     refine wpIn_seq ?_
     by_cases d0 : decB (flipL (encR (dataL la 24)) (placesL ll 224 9)) = true
     ·
      refine wp_eq (l' := (zs zf39 0 6 ++ [(zf72 6), (sli b34 0 3 3), (eN 0), u56, (eN (decN (flipL (encR (dataL la 24)) (placesL ll 224 9)))), (Value.bool true), (zf72 12), (zf72 13), (zf72 14)] ++ (zs zf39 15 15 ++ (zs zf72 30 38 ++ [(Value.bool false)] ++ (zs z 69 12 ++ [(zf72 81)]))))) (show ((zs zf39 0 6 ++ [(zf72 6), (sli b34 0 3 3), (eN 0), u56, (eN (decN (flipL (encR (dataL la 24)) (placesL ll 224 9)))), (Value.bool (decB (flipL (encR (dataL la 24)) (placesL ll 224 9)))), (zf72 12), (zf72 13), (zf72 14)] ++ (zs zf39 15 15 ++ (zs zf72 30 38 ++ [(Value.bool false)] ++ (zs z 69 12 ++ [(zf72 81)])))) : List Value) = (zs zf39 0 6 ++ [(zf72 6), (sli b34 0 3 3), (eN 0), u56, (eN (decN (flipL (encR (dataL la 24)) (placesL ll 224 9)))), (Value.bool true), (zf72 12), (zf72 13), (zf72 14)] ++ (zs zf39 15 15 ++ (zs zf72 30 38 ++ [(Value.bool false)] ++ (zs z 69 12 ++ [(zf72 81)])))) from reslot (zs zf39 0 6 ++ [(zf72 6), (sli b34 0 3 3), (eN 0), u56, (eN (decN (flipL (encR (dataL la 24)) (placesL ll 224 9)))), (Value.bool (decB (flipL (encR (dataL la 24)) (placesL ll 224 9)))), (zf72 12), (zf72 13), (zf72 14)] ++ (zs zf39 15 15 ++ (zs zf72 30 38 ++ [(Value.bool false)] ++ (zs z 69 12 ++ [(zf72 81)])))) 11 (congrArg Value.bool d0)) ?_
      refine drawn' (O := (Orq bo50 (Or1 b34 No))) (n := 13) [0, 1, 3, 7, 3, 3, 51, 115, 255, 511, 3, 2047, 4095] [(0, 69), (1, 70), (2, 71), (3, 72), (4, 73), (5, 74), (6, 75), (7, 76), (8, 77), (9, 78), (10, 79), (11, 80), (12, 81)] [0, 1, 2, 3, 4, 5, 6, 7, 8, 9, 10, 11, 12] [] (fun i_ => ([RF.is (Orq bo50 (Or1 b34 No)) (Value.bool true), RF.is (Orq bo50 (Or1 b34 No)) (Value.bool true), RF.is (Orq bo50 (Or1 b34 No)) u56, RF.ps (Orq bo50 (Or1 b34 No)) (Orq bo50 (Or1 b34 (Old W.heap.size))) (Seq kB (encR (decD (flipL (encR (dataL la 24)) (placesL ll 224 9))))) (orq_mono (or1_mono no_any)), RF.is (Orq bo50 (Or1 b34 No)) (sli b34 0 3 3), RF.is (Orq bo50 (Or1 b34 No)) (eN 0), RF.is (Orq bo50 (Or1 b34 No)) (ptr b34 0), RF.is (Orq bo50 (Or1 b34 No)) u28, RF.ps (Orq bo50 (Or1 b34 No)) (Orq bo50 (Or1 b34 (Old W.heap.size))) (Seq kN (apR (encR (decD (flipL (encR (dataL la 24)) (placesL ll 224 9)))) (flipL (encR (dataL la 24)) (placesL ll 224 9)))) (orq_mono (or1_mono no_any)), RF.is (Orq bo50 (Or1 b34 No)) (eN ((apR (encR (decD (flipL (encR (dataL la 24)) (placesL ll 224 9)))) (flipL (encR (dataL la 24)) (placesL ll 224 9))).length)), RF.is (Orq bo50 (Or1 b34 No)) (eN (decN (flipL (encR (dataL la 24)) (placesL ll 224 9)))), RF.is (Orq bo50 (Or1 b34 No)) (Value.bool false), RF.is (Orq bo50 (Or1 b34 No)) (Value.bool false)] : List (RF (Orq bo50 (Or1 b34 No)))).getD i_ (RF.any (Orq bo50 (Or1 b34 No)))) (fun _ w_ => Arr 22 b34 [u28, u32, u3] w_ ∧ Ow 5 1 bo50 u48 ((flipL (encR (dataL la 24)) (placesL ll 224 9))).length (((flipL (encR (dataL la 24)) (placesL ll 224 9))).map eB) w_) (fun v73 => (zs zf39 0 6 ++ [(zf72 6), (sli b34 0 3 3), (eN 0), u56, (eN (decN (flipL (encR (dataL la 24)) (placesL ll 224 9)))), (Value.bool true), (zf72 12), (zf72 13), (zf72 14)] ++ (zs zf39 15 15 ++ (zs zf72 30 38 ++ [(Value.bool false), (v73 0), (v73 1), (v73 2), (v73 3), (v73 4), (v73 5), (v73 6), (v73 7), (v73 8), (v73 9), (v73 10), (v73 11), (v73 12)])))) s_mx (by kernel_rfl) rfl (by kernel_rfl) (by rfl) (fun v_ => by kernel_rfl) (fun _ => fun w_ w2_ h ho => by obtain ⟨r_a37, r_a51⟩ := h; exact ⟨r_a37.step0 ho, r_a51.step0 ho⟩) ⟨a37, a51⟩ ?_ ?_ ?_
      ·
       refine ls_cons ?_ ?_
       ·
        intro v73 lo hi w_ k_ hO hd _ _ hk_ _ hR hold
        obtain ⟨r_a37, r_a51⟩ := hR
        clear hd hold
        refine ⟨_, rfl, gd rfl ?_⟩
        exact Does.is (d_move rfl)
       refine ls_cons ?_ ?_
       ·
        intro v73 lo hi w_ k_ hO hd _ _ hk_ _ hR hold
        obtain ⟨r_a37, r_a51⟩ := hR
        have e0 : v73 0 = (Value.bool true) := hd 0 (by kernel_rfl)
        clear hd hold
        refine ⟨_, rfl, gd rfl ?_⟩
        exact Does.is (d_move (v := (Value.bool true)) e0)
       refine ls_cons ?_ ?_
       ·
        intro v73 lo hi w_ k_ hO hd _ _ hk_ _ hR hold
        obtain ⟨r_a37, r_a51⟩ := hR
        have e1 : v73 1 = (Value.bool true) := hd 1 (by kernel_rfl)
        clear hd hold
        refine ⟨_, rfl, gd_on rfl rfl rfl (Nat.le_of_ble_eq_true rfl) e1 ?_⟩
        exact Does.is (d_move rfl)
       refine ls_cons ?_ ?_
       ·
        intro v73 lo hi w_ k_ hO hd _ _ hk_ _ hR hold
        obtain ⟨r_a37, r_a51⟩ := hR
        have e1 : v73 1 = (Value.bool true) := hd 1 (by kernel_rfl)
        have e2 : v73 2 = u56 := hd 2 (by kernel_rfl)
        clear hd hold
        refine ⟨_, rfl, gd_on rfl rfl rfl (Nat.le_of_ble_eq_true rfl) e1 ?_⟩
        refine Does.mono (R := ROw 5 eB (encR (decD (flipL (encR (dataL la 24)) (placesL ll 224 9)))) w_) ?_ (fun u w' h => ⟨(h.ps).1.less (orq_old (fun x hx => by subst hx; exact r_a51.lt) (or1_old r_a37.lt (old_old (Nat.le_trans oW.size hO.size)))), (h.ps).2⟩)
        exact d_call (xl := [.tmp 71]) (al := [u56]) Try.func15 (by kernel_rfl) rfl (show ([(v73 2)] : List Value) = [u56] from by rw [e2]) rfl (bchEncode_ok (decD (flipL (encR (dataL la 24)) (placesL ll 224 9))) u56 _ (Ps.no (f57.step hO (orq_mono (or1_mono no_any)))) (by have := flipL_length (encR (dataL la 24)) (placesL ll 224 9); have := decD_len (flipL (encR (dataL la 24)) (placesL ll 224 9)); have := places_le ll 224 9; have := dataL_length la 24; have := encR_len (dataL la 24); first | omega | (simp; done) | (simp; omega)))
       refine ls_cons ?_ ?_
       ·
        intro v73 lo hi w_ k_ hO hd _ _ hk_ _ hR hold
        obtain ⟨r_a37, r_a51⟩ := hR
        have e1 : v73 1 = (Value.bool true) := hd 1 (by kernel_rfl)
        clear hd hold
        refine ⟨_, rfl, gd_on rfl rfl rfl (Nat.le_of_ble_eq_true rfl) e1 ?_⟩
        exact Does.is (d_move rfl)
       refine ls_cons ?_ ?_
       ·
        intro v73 lo hi w_ k_ hO hd _ _ hk_ _ hR hold
        obtain ⟨r_a37, r_a51⟩ := hR
        have e1 : v73 1 = (Value.bool true) := hd 1 (by kernel_rfl)
        clear hd hold
        refine ⟨_, rfl, gd_on rfl rfl rfl (Nat.le_of_ble_eq_true rfl) e1 ?_⟩
        exact Does.is (d_move rfl)
       refine ls_cons ?_ ?_
       ·
        intro v73 lo hi w_ k_ hO hd _ _ hk_ _ hR hold
        obtain ⟨r_a37, r_a51⟩ := hR
        have e1 : v73 1 = (Value.bool true) := hd 1 (by kernel_rfl)
        have e4 : v73 4 = (sli b34 0 3 3) := hd 4 (by kernel_rfl)
        have e5 : v73 5 = (eN 0) := hd 5 (by kernel_rfl)
        clear hd hold
        refine ⟨_, rfl, gd_on rfl rfl rfl (Nat.le_of_ble_eq_true rfl) e1 ?_⟩
        exact Does.is (d_index1 (n := 3) (i := 0) Try.underlying43 s_ti22 e4 (show _ = Value.int _ ((0 : Nat) : Int) from e5) (by omega))
       refine ls_cons ?_ ?_
       ·
        intro v73 lo hi w_ k_ hO hd _ _ hk_ _ hR hold
        obtain ⟨r_a37, r_a51⟩ := hR
        have e1 : v73 1 = (Value.bool true) := hd 1 (by kernel_rfl)
        have e6 : v73 6 = (ptr b34 0) := hd 6 (by kernel_rfl)
        clear hd hold
        refine ⟨_, rfl, gd_on rfl rfl rfl (Nat.le_of_ble_eq_true rfl) e1 ?_⟩
        exact Does.is (d_load (v := u28) ⟨_, Try.underlying22, rfl⟩ e6 r_a37 rfl)
       refine ls_cons ?_ ?_
       ·
        intro v73 lo hi w_ k_ hO hd _ _ hk_ _ hR hold
        obtain ⟨r_a37, r_a51⟩ := hR
        have e1 : v73 1 = (Value.bool true) := hd 1 (by kernel_rfl)
        have d3 : Ps (Orq bo50 (Or1 b34 (Old W.heap.size))) (Seq kB (encR (decD (flipL (encR (dataL la 24)) (placesL ll 224 9)))) (v73 3)) w_ := hd 3 (by kernel_rfl)
        have e7 : v73 7 = u28 := hd 7 (by kernel_rfl)
        clear hd hold
        refine ⟨_, rfl, gd_on rfl rfl rfl (Nat.le_of_ble_eq_true rfl) e1 ?_⟩
        refine Does.mono (R := ROw 3 eN (apR (encR (decD (flipL (encR (dataL la 24)) (placesL ll 224 9)))) (flipL (encR (dataL la 24)) (placesL ll 224 9))) w_) ?_ (fun u w' h => ⟨(h.ps).1.less (orq_old (fun x hx => by subst hx; exact r_a51.lt) (or1_old r_a37.lt (old_old (Nat.le_trans oW.size hO.size)))), (h.ps).2⟩)
        exact d_call (xl := [.tmp 72, .tmp 76]) (al := [(v73 3), u28]) Try.func16 (by kernel_rfl) rfl (show ([(v73 3), (v73 7)] : List Value) = [(v73 3), u28] from by rw [e7]) rfl (ref6Apart_ok (encR (decD (flipL (encR (dataL la 24)) (placesL ll 224 9)))) (flipL (encR (dataL la 24)) (placesL ll 224 9)) (v73 3) u28 _ (Ps.no d3) (Ps.no (f29.step hO (orq_mono (or1_mono no_any)))) (by have := flipL_length (encR (dataL la 24)) (placesL ll 224 9); have := decD_len (flipL (encR (dataL la 24)) (placesL ll 224 9)); have := places_le ll 224 9; have := dataL_length la 24; have := encR_len (decD (flipL (encR (dataL la 24)) (placesL ll 224 9))); have := encR_len (dataL la 24); first | omega | (simp; done) | (simp; omega)) (by have := flipL_length (encR (dataL la 24)) (placesL ll 224 9); have := places_le ll 224 9; have := dataL_length la 24; have := encR_len (dataL la 24); first | omega | (simp; done) | (simp; omega)))
       refine ls_cons ?_ ?_
       ·
        intro v73 lo hi w_ k_ hO hd _ _ hk_ _ hR hold
        obtain ⟨r_a37, r_a51⟩ := hR
        have e1 : v73 1 = (Value.bool true) := hd 1 (by kernel_rfl)
        have d8 : Ps (Orq bo50 (Or1 b34 (Old W.heap.size))) (Seq kN (apR (encR (decD (flipL (encR (dataL la 24)) (placesL ll 224 9)))) (flipL (encR (dataL la 24)) (placesL ll 224 9))) (v73 8)) w_ := hd 8 (by kernel_rfl)
        clear hd hold
        refine ⟨_, rfl, gd_on rfl rfl rfl (Nat.le_of_ble_eq_true rfl) e1 ?_⟩
        exact Does.is (d_lenS rfl Try.underlying26 rfl d8)
       refine ls_cons ?_ ?_
       ·
        intro v73 lo hi w_ k_ hO hd _ _ hk_ _ hR hold
        obtain ⟨r_a37, r_a51⟩ := hR
        have e1 : v73 1 = (Value.bool true) := hd 1 (by kernel_rfl)
        clear hd hold
        refine ⟨_, rfl, gd_on rfl rfl rfl (Nat.le_of_ble_eq_true rfl) e1 ?_⟩
        exact Does.is (d_move rfl)
       refine ls_cons ?_ ?_
       ·
        intro v73 lo hi w_ k_ hO hd _ _ hk_ _ hR hold
        obtain ⟨r_a37, r_a51⟩ := hR
        have e1 : v73 1 = (Value.bool true) := hd 1 (by kernel_rfl)
        have e10 : v73 10 = (eN (decN (flipL (encR (dataL la 24)) (placesL ll 224 9)))) := hd 10 (by kernel_rfl)
        have e9 : v73 9 = (eN ((apR (encR (decD (flipL (encR (dataL la 24)) (placesL ll 224 9)))) (flipL (encR (dataL la 24)) (placesL ll 224 9))).length)) := hd 9 (by kernel_rfl)
        clear hd hold
        refine ⟨_, rfl, gd_on rfl rfl rfl (Nat.le_of_ble_eq_true rfl) e1 ?_⟩
        exact Does.is (n_neq (a := ((apR (encR (decD (flipL (encR (dataL la 24)) (placesL ll 224 9)))) (flipL (encR (dataL la 24)) (placesL ll 224 9))).length)) (b := (decN (flipL (encR (dataL la 24)) (placesL ll 224 9)))) e9 e10 (by rw [decide_eq_true (dec_apart d0)] <;> rfl))
       refine ls_cons ?_ ?_
       ·
        intro v73 lo hi w_ k_ hO hd _ _ hk_ _ hR hold
        obtain ⟨r_a37, r_a51⟩ := hR
        have e1 : v73 1 = (Value.bool true) := hd 1 (by kernel_rfl)
        have e11 : v73 11 = (Value.bool false) := hd 11 (by kernel_rfl)
        clear hd hold
        refine ⟨_, rfl, gd rfl ?_⟩
        exact Does.is (d_pick (b := true) (v := (Value.bool false)) e1 e11)
       exact ls_nil
      ·
       exact ms_nil
      intro v73 lo_ hi_ w74 o75 hd iv_ hR
      have e0 : v73 0 = (Value.bool true) := hd 0 (by decide)
      have e1 : v73 1 = (Value.bool true) := hd 1 (by decide)
      have e2 : v73 2 = u56 := hd 2 (by decide)
      have e4 : v73 4 = (sli b34 0 3 3) := hd 4 (by decide)
      have e5 : v73 5 = (eN 0) := hd 5 (by decide)
      have e6 : v73 6 = (ptr b34 0) := hd 6 (by decide)
      have e7 : v73 7 = u28 := hd 7 (by decide)
      have e9 : v73 9 = (eN ((apR (encR (decD (flipL (encR (dataL la 24)) (placesL ll 224 9)))) (flipL (encR (dataL la 24)) (placesL ll 224 9))).length)) := hd 9 (by decide)
      have e10 : v73 10 = (eN (decN (flipL (encR (dataL la 24)) (placesL ll 224 9)))) := hd 10 (by decide)
      have e11 : v73 11 = (Value.bool false) := hd 11 (by decide)
      have e12 : v73 12 = (Value.bool false) := hd 12 (by decide)
      have f_v73_3 : Ps (Orq bo50 (Or1 b34 (Old W.heap.size))) (Seq kB (encR (decD (flipL (encR (dataL la 24)) (placesL ll 224 9)))) (v73 3)) w74 := hd 3 (by decide)
      have f_v73_8 : Ps (Orq bo50 (Or1 b34 (Old W.heap.size))) (Seq kN (apR (encR (decD (flipL (encR (dataL la 24)) (placesL ll 224 9)))) (flipL (encR (dataL la 24)) (placesL ll 224 9))) (v73 8)) w74 := hd 8 (by decide)
      clear hd iv_ lo_ hi_
      refine fr_eq (l' := (zs zf39 0 6 ++ [(zf72 6), (sli b34 0 3 3), (eN 0), u56, (eN (decN (flipL (encR (dataL la 24)) (placesL ll 224 9)))), (Value.bool true), (zf72 12), (zf72 13), (zf72 14)] ++ (zs zf39 15 15 ++ (zs zf72 30 38 ++ [(Value.bool false), (Value.bool true), (Value.bool true), u56, (v73 3), (sli b34 0 3 3), (eN 0), (ptr b34 0), u28, (v73 8), (eN ((apR (encR (decD (flipL (encR (dataL la 24)) (placesL ll 224 9)))) (flipL (encR (dataL la 24)) (placesL ll 224 9))).length)), (eN (decN (flipL (encR (dataL la 24)) (placesL ll 224 9)))), (Value.bool false), (Value.bool false)])))) (by rw [e0, e1, e2, e4, e5, e6, e7, e9, e10, e11, e12] <;> rfl) ?_
      clear e0 e1 e2 e4 e5 e6 e7 e9 e10 e11 e12
      replace h1 := h1.step o75 (orq_mono (or1_mono no_any))
      replace h2 := h2.step o75 (orq_mono (or1_mono no_any))
      replace h3 := h3.step o75 (orq_mono (or1_mono no_any))
      replace f17 := f17.step o75 (orq_mono (or1_mono no_any))
      replace f21 := f21.step o75 (orq_mono (or1_mono no_any))
      replace f25 := f25.step o75 (orq_mono (or1_mono no_any))
      replace f29 := f29.step o75 (orq_mono (or1_mono no_any))
      replace f33 := f33.step o75 (orq_mono (or1_mono no_any))
      replace f57 := f57.step o75 (orq_mono (or1_mono no_any))
      replace f66 := f66.step o75 (orq_mono (or1_mono no_any))
      obtain ⟨xr_a37, xr_a51⟩ := hR
      replace a37 : Arr 22 b34 [u28, u32, u3] w74 := xr_a37
      replace a51 : Ow 5 1 bo50 u48 ((flipL (encR (dataL la 24)) (placesL ll 224 9))).length (((flipL (encR (dataL la 24)) (placesL ll 224 9))).map eB) w74 := xr_a51
      clear xr_a37 xr_a51
      replace oW := oW.tail o75 (tl_q q_oW_cp (fun _ e => by cases e) (tl_new g_oW_b34 tl_no))
      replace o40 := o40.tail o75 (tl_q q_o40_cp (fun _ e => by cases e) (tl_in in1 tl_no))
      refine then_n ?_
      refine cond_f rfl ?_
      refine wpIn_skip ?_
      refine inb_n (then_n ?_)
      refine plain ?_
      refine wpL.is rfl (d_move rfl) ?_
      refine wpL.is rfl (n_add (a := 0) (b := 1) rfl rfl (by omega)) ?_
      refine wpL.is rfl (d_assign rfl) ?_
      refine wpL.flat (zs zf39 0 6 ++ [(zf72 6), (sli b34 0 3 3), (eN 1), u56, (eN (decN (flipL (encR (dataL la 24)) (placesL ll 224 9)))), (Value.bool true), (zf72 12), (zf72 13), (zf72 14)] ++ (zs zf39 15 15 ++ [(zf72 30), (zf72 31), (eN 0), (eN 1)] ++ (zs zf72 34 34 ++ [(Value.bool false), (Value.bool true), (Value.bool true), u56, (v73 3), (sli b34 0 3 3), (eN 0), (ptr b34 0), u28, (v73 8), (eN ((apR (encR (decD (flipL (encR (dataL la 24)) (placesL ll 224 9)))) (flipL (encR (dataL la 24)) (placesL ll 224 9))).length)), (eN (decN (flipL (encR (dataL la 24)) (placesL ll 224 9)))), (Value.bool false), (Value.bool false)]))) (by kernel_rfl) ?_
      refine wpL.done ?_
      refine then_n ?_
      refine ⟨_, 1, rfl, rfl, ⟨?_, ?_, ?_⟩, ?_⟩
      ·
       (try dsimp only)
       all_goals (omega)
      ·
       (try dsimp only)
       all_goals (exact o40)
      ·
       (try dsimp only)
       all_goals (exact a37)
      ·
       (try dsimp only)
       all_goals (omega)
     ·
      refine wp_eq (l' := (zs zf39 0 6 ++ [(zf72 6), (sli b34 0 3 3), (eN 0), u56, (eN (decN (flipL (encR (dataL la 24)) (placesL ll 224 9)))), (Value.bool false), (zf72 12), (zf72 13), (zf72 14)] ++ (zs zf39 15 15 ++ (zs zf72 30 38 ++ [(Value.bool false)] ++ (zs z 69 12 ++ [(zf72 81)]))))) (show ((zs zf39 0 6 ++ [(zf72 6), (sli b34 0 3 3), (eN 0), u56, (eN (decN (flipL (encR (dataL la 24)) (placesL ll 224 9)))), (Value.bool (decB (flipL (encR (dataL la 24)) (placesL ll 224 9)))), (zf72 12), (zf72 13), (zf72 14)] ++ (zs zf39 15 15 ++ (zs zf72 30 38 ++ [(Value.bool false)] ++ (zs z 69 12 ++ [(zf72 81)])))) : List Value) = (zs zf39 0 6 ++ [(zf72 6), (sli b34 0 3 3), (eN 0), u56, (eN (decN (flipL (encR (dataL la 24)) (placesL ll 224 9)))), (Value.bool false), (zf72 12), (zf72 13), (zf72 14)] ++ (zs zf39 15 15 ++ (zs zf72 30 38 ++ [(Value.bool false)] ++ (zs z 69 12 ++ [(zf72 81)])))) from reslot (zs zf39 0 6 ++ [(zf72 6), (sli b34 0 3 3), (eN 0), u56, (eN (decN (flipL (encR (dataL la 24)) (placesL ll 224 9)))), (Value.bool (decB (flipL (encR (dataL la 24)) (placesL ll 224 9)))), (zf72 12), (zf72 13), (zf72 14)] ++ (zs zf39 15 15 ++ (zs zf72 30 38 ++ [(Value.bool false)] ++ (zs z 69 12 ++ [(zf72 81)])))) 11 (congrArg Value.bool (Bool.eq_false_iff.2 d0))) ?_
      refine drawn_pure [0, 1, 3, 7, 3, 3, 51, 115, 255, 511, 3, 2047, 4095] [(0, 69), (1, 70), (2, 71), (3, 72), (4, 73), (5, 74), (6, 75), (7, 76), (8, 77), (9, 78), (10, 79), (11, 80), (12, 81)] [(Value.bool false), (Value.bool false), undef, undef, undef, undef, undef, undef, undef, undef, undef, undef, (Value.bool false)] (zs zf39 0 6 ++ [(zf72 6), (sli b34 0 3 3), (eN 0), u56, (eN (decN (flipL (encR (dataL la 24)) (placesL ll 224 9)))), (Value.bool false), (zf72 12), (zf72 13), (zf72 14)] ++ (zs zf39 15 15 ++ (zs zf72 30 38 ++ [(Value.bool false), (Value.bool false), (Value.bool false)] ++ (us 10 ++ [(Value.bool false)])))) s_mx (by kernel_rfl) (by kernel_rfl) rfl (by kernel_rfl) (by kernel_rfl) ?_ ?_
      ·
       intro w_ hO_
       refine AllG.cons (gi rfl (d_move rfl)) ?_
       refine AllG.cons (gi rfl (d_move rfl)) ?_
       refine AllG.cons (gf rfl rfl rfl (Nat.le_of_ble_eq_true rfl) rfl) ?_
       refine AllG.cons (gf rfl rfl rfl (Nat.le_of_ble_eq_true rfl) rfl) ?_
       refine AllG.cons (gf rfl rfl rfl (Nat.le_of_ble_eq_true rfl) rfl) ?_
       refine AllG.cons (gf rfl rfl rfl (Nat.le_of_ble_eq_true rfl) rfl) ?_
       refine AllG.cons (gf rfl rfl rfl (Nat.le_of_ble_eq_true rfl) rfl) ?_
       refine AllG.cons (gf rfl rfl rfl (Nat.le_of_ble_eq_true rfl) rfl) ?_
       refine AllG.cons (gf rfl rfl rfl (Nat.le_of_ble_eq_true rfl) rfl) ?_
       refine AllG.cons (gf rfl rfl rfl (Nat.le_of_ble_eq_true rfl) rfl) ?_
       refine AllG.cons (gf rfl rfl rfl (Nat.le_of_ble_eq_true rfl) rfl) ?_
       refine AllG.cons (gf rfl rfl rfl (Nat.le_of_ble_eq_true rfl) rfl) ?_
       refine AllG.cons (gi rfl (d_pick (b := false) (v := (Value.bool false)) rfl rfl)) ?_
       exact AllG.nil
      intro w76 o77
      replace h1 := h1.step0 o77
      replace h2 := h2.step0 o77
      replace h3 := h3.step0 o77
      replace f17 := f17.step0 o77
      replace f21 := f21.step0 o77
      replace f25 := f25.step0 o77
      replace f29 := f29.step0 o77
      replace f33 := f33.step0 o77
      replace f57 := f57.step0 o77
      replace f66 := f66.step0 o77
      replace a37 := a37.step0 o77
      replace a51 := a51.step0 o77
      replace oW := oW.tail0 o77
      replace o40 := o40.tail0 o77
      refine then_n ?_
      refine cond_f rfl ?_
      refine wpIn_skip ?_
      refine inb_n (then_n ?_)
      refine plain ?_
      refine wpL.is rfl (d_move rfl) ?_
      refine wpL.is rfl (n_add (a := 0) (b := 1) rfl rfl (by omega)) ?_
      refine wpL.is rfl (d_assign rfl) ?_
      refine wpL.flat (zs zf39 0 6 ++ [(zf72 6), (sli b34 0 3 3), (eN 1), u56, (eN (decN (flipL (encR (dataL la 24)) (placesL ll 224 9)))), (Value.bool false), (zf72 12), (zf72 13), (zf72 14)] ++ (zs zf39 15 15 ++ [(zf72 30), (zf72 31), (eN 0), (eN 1)] ++ (zs zf72 34 34 ++ [(Value.bool false), (Value.bool false), (Value.bool false)] ++ (us 10 ++ [(Value.bool false)])))) (by kernel_rfl) ?_
      refine wpL.done ?_
      refine then_n ?_
      refine ⟨_, 1, rfl, rfl, ⟨?_, ?_, ?_⟩, ?_⟩
      ·
       (try dsimp only)
       all_goals (omega)
      ·
       (try dsimp only)
       all_goals (exact o40)
      ·
       (try dsimp only)
       all_goals (exact a37)
      ·
       (try dsimp only)
       all_goals (omega)
    ·
     by_cases e1 : i = 1
     ·
      subst e1
      refine wp_eq (l' := (zs zf39 0 6 ++ [(z 6), (sli b34 0 3 3), (eN 1)] ++ (zs z 9 6 ++ (zs zf39 15 15 ++ [(eN 1), (Value.bool (decide (1 < 3)))] ++ (zs z 32 50))))) rfl ?_
      refine plain ?_
      refine wpL.op rfl (d_buildL (cs := []) Try.underlying22 s_ti5 rfl (Nat.le_of_ble_eq_true rfl) parts_nil rfl) ?_
      rintro _ w79 ⟨b78, rfl, g80, a81, o82⟩
      replace a81 : Arr 5 b78 (([] : List UInt8).map eB) w79 := a81
      have l_b78 : ([] : List UInt8).length = 0 := rfl
      have n_b34_b78 : b34 ≠ b78 := a37.ne g80
      have g_oW_b78 : W.heap.size ≤ b78 := Nat.le_trans oW.size g80
      have g_o40_b78 : w35.heap.size ≤ b78 := Nat.le_trans o40.size g80
      replace h1 := h1.new o82 g80
      replace h2 := h2.new o82 g80
      replace h3 := h3.new o82 g80
      replace f17 := f17.new o82 g80
      replace f21 := f21.new o82 g80
      replace f25 := f25.new o82 g80
      replace f29 := f29.new o82 g80
      replace f33 := f33.new o82 g80
      replace a37 := a37.step0 o82
      replace oW := oW.tail0 o82
      replace o40 := o40.tail0 o82
      refine wpL.is rfl (d_move rfl) ?_
      refine wpL.is rfl (d_move rfl) ?_
      refine wpL.flat (zs zf39 0 6 ++ [(z 6), (sli b34 0 3 3), (eN 1)] ++ (zs z 9 6 ++ (zs zf39 15 15 ++ [(eN 1), (Value.bool (decide (1 < 3))), (z 32), (z 33), (z 34), (sli b78 0 0 0), (sli b34 0 3 3), (eN 1)] ++ (zs z 38 44)))) (by kernel_rfl) ?_
      refine wpL.is rfl (d_index1 (n := 3) (i := 1) Try.underlying43 s_ti22 rfl (show _ = Value.int _ ((1 : Nat) : Int) from rfl) (by omega)) ?_
      refine wpL.is rfl (d_load (v := u32) ⟨_, Try.underlying22, rfl⟩ rfl a37 rfl) ?_
      have a83 := Ow.of_map2 a81 l_b78
      have nq_cp_b34 := nq_b (Ne.symm n_b34_b78)
      have q_oW_cp : Fr (some b78) none W.heap.size := Fr.new g_oW_b78
      have q_o40_cp : Fr (some b78) none w35.heap.size := Fr.new g_o40_b78
      replace h1 := h1.less (Y := (Orq (some b78) (Or1 b34 No))) (xx_br (xx_or1 xx_id))
      replace h2 := h2.less (Y := (Orq (some b78) (Or1 b34 No))) (xx_br (xx_or1 xx_id))
      replace h3 := h3.less (Y := (Orq (some b78) (Or1 b34 No))) (xx_br (xx_or1 xx_id))
      replace f17 := f17.less (Y := (Orq (some b78) (Or1 b34 (Old W.heap.size)))) (xx_br (xx_or1 xx_id))
      replace f21 := f21.less (Y := (Orq (some b78) (Or1 b34 (Old W.heap.size)))) (xx_br (xx_or1 xx_id))
      replace f25 := f25.less (Y := (Orq (some b78) (Or1 b34 (Old W.heap.size)))) (xx_br (xx_or1 xx_id))
      replace f29 := f29.less (Y := (Orq (some b78) (Or1 b34 (Old W.heap.size)))) (xx_br (xx_or1 xx_id))
      replace f33 := f33.less (Y := (Orq (some b78) (Or1 b34 (Old W.heap.size)))) (xx_br (xx_or1 xx_id))
      refine wpL.op rfl (d_append Try.underlying22 Try.underlying22 s_ti5 rfl rfl rfl a83 (SrcV.of_seq f33 (fun _ => rfl)) (by simp only [List.length_nil, flipL_length, dataL_length]; (try have := encR_len (dataL la 24)); omega) (by simp only [List.length_nil, flipL_length, dataL_length]; (try have := encR_len (dataL la 24)); omega) rfl) ?_
      rintro u84 w85 ⟨bo86, a87, o88, q89⟩
      replace a87 : Ow 5 1 bo86 u84 ((dataL lr 28)).length (((dataL lr 28)).map eB) w85 := by simpa using a87
      replace h1 := h1.gr o88 (fun k e => (.inl e)) (xx_re (Fr.of_or q89) (xx_or1 xx_id))
      replace h2 := h2.gr o88 (fun k e => (.inl e)) (xx_re (Fr.of_or q89) (xx_or1 xx_id))
      replace h3 := h3.gr o88 (fun k e => (.inl e)) (xx_re (Fr.of_or q89) (xx_or1 xx_id))
      replace f17 := f17.gr o88 (fun k e => (.inl e)) (xx_re (Fr.of_or q89) (xx_or1 xx_id))
      replace f21 := f21.gr o88 (fun k e => (.inl e)) (xx_re (Fr.of_or q89) (xx_or1 xx_id))
      replace f25 := f25.gr o88 (fun k e => (.inl e)) (xx_re (Fr.of_or q89) (xx_or1 xx_id))
      replace f29 := f29.gr o88 (fun k e => (.inl e)) (xx_re (Fr.of_or q89) (xx_or1 xx_id))
      replace f33 := f33.gr o88 (fun k e => (.inl e)) (xx_re (Fr.of_or q89) (xx_or1 xx_id))
      have nq2 := nqs nq_cp_b34 (Fr.of_or q89) a37.lt
      replace a37 := a37.step o88 (fun e => nq_cp_b34 _ e rfl)
      replace nq_cp_b34 := nq2
      clear nq2
      have tq := oW.size
      replace oW := oW.tailr o88 q_oW_cp (fun _ e => by cases e)
      replace q_oW_cp := qtr (Fr.of_or q89) q_oW_cp tq
      clear tq
      have tq := o40.size
      replace o40 := o40.tailr o88 q_o40_cp (fun _ e => by cases e)
      replace q_o40_cp := qtr (Fr.of_or q89) q_o40_cp tq
      clear tq
      refine wpL.flat (zs zf39 0 6 ++ [(z 6), (sli b34 0 3 3), (eN 1)] ++ (zs z 9 6 ++ (zs zf39 15 15 ++ [(eN 1), (Value.bool (decide (1 < 3))), (z 32), (z 33), (z 34), (sli b78 0 0 0), (sli b34 0 3 3), (eN 1), (ptr b34 1), u32, u84] ++ (zs z 41 41)))) (by kernel_rfl) ?_
      refine wpL.op rfl (d_call (xl := [.tmp 40]) (al := [u84]) Try.func29 (by kernel_rfl) rfl rfl rfl (bchDecode_ok (dataL lr 28) u84 _ (Ps.no (a87.seq (X := No) (fun _ _ h => h))) (by have := dataL_length lr 28; first | omega | (simp; done) | (simp; omega)))) ?_
      rintro _ w90 ⟨u92, rfl, f93, o91⟩
      replace f93 := f93.less (Y := (Orq bo86 (Or1 b34 (Old W.heap.size)))) (orq_old (fun x hx => by subst hx; exact a87.lt) (or1_old a37.lt (old_old oW.size)))
      replace h1 := h1.step0 o91
      replace h2 := h2.step0 o91
      replace h3 := h3.step0 o91
      replace f17 := f17.step0 o91
      replace f21 := f21.step0 o91
      replace f25 := f25.step0 o91
      replace f29 := f29.step0 o91
      replace f33 := f33.step0 o91
      replace a37 := a37.step0 o91
      replace a87 := a87.step0 o91
      replace oW := oW.tail0 o91
      replace o40 := o40.tail0 o91
      refine wpL.is rfl (d_move rfl) ?_
      refine wpL.is rfl (d_extract (v := u92) rfl rfl) ?_
      refine wpL.flat (zs zf39 0 6 ++ [(z 6), (sli b34 0 3 3), (eN 1)] ++ (zs z 9 6 ++ (zs zf39 15 15 ++ [(eN 1), (Value.bool (decide (1 < 3))), (z 32), (z 33), (Value.tuple #[u92, (eN (decN (dataL lr 28))), (Value.bool (decB (dataL lr 28)))]), (sli b78 0 0 0), (sli b34 0 3 3), (eN 1), (ptr b34 1), u32, u84, (Value.tuple #[u92, (eN (decN (dataL lr 28))), (Value.bool (decB (dataL lr 28)))]), u92] ++ (zs z 43 39)))) (by kernel_rfl) ?_
      refine wpL.is rfl (d_extract (v := (eN (decN (dataL lr 28)))) rfl rfl) ?_
      refine wpL.is rfl (d_extract (v := (Value.bool (decB (dataL lr 28)))) rfl rfl) ?_
      refine wpL.is rfl (d_assign rfl) ?_
      refine wpL.flat (zs zf39 0 6 ++ [(z 6), (sli b34 0 3 3), (eN 1), u92] ++ (zs z 10 5 ++ (zs zf39 15 15 ++ [(eN 1), (Value.bool (decide (1 < 3))), (z 32), (z 33), (Value.tuple #[u92, (eN (decN (dataL lr 28))), (Value.bool (decB (dataL lr 28)))]), (sli b78 0 0 0), (sli b34 0 3 3), (eN 1), (ptr b34 1), u32, u84, (Value.tuple #[u92, (eN (decN (dataL lr 28))), (Value.bool (decB (dataL lr 28)))]), u92, (eN (decN (dataL lr 28))), (Value.bool (decB (dataL lr 28)))] ++ (zs z 45 37)))) (by kernel_rfl) ?_
      refine wpL.is rfl (d_assign rfl) ?_
      refine wpL.is rfl (d_assign rfl) ?_
      refine wpL.flat (zs zf39 0 6 ++ [(z 6), (sli b34 0 3 3), (eN 1), u92, (eN (decN (dataL lr 28))), (Value.bool (decB (dataL lr 28))), (z 12), (z 13), (z 14)] ++ (zs zf39 15 15 ++ [(eN 1), (Value.bool (decide (1 < 3))), (z 32), (z 33), (Value.tuple #[u92, (eN (decN (dataL lr 28))), (Value.bool (decB (dataL lr 28)))]), (sli b78 0 0 0), (sli b34 0 3 3), (eN 1), (ptr b34 1), u32, u84, (Value.tuple #[u92, (eN (decN (dataL lr 28))), (Value.bool (decB (dataL lr 28)))]), u92, (eN (decN (dataL lr 28))), (Value.bool (decB (dataL lr 28)))] ++ (zs z 45 37))) (by kernel_rfl) ?_
      refine wpL.done ?_
      refine then_n ?_
      refine forget (fun zf98 => (zs zf39 0 6 ++ [(zf98 6), (sli b34 0 3 3), (eN 1), u92, (eN (decN (dataL lr 28))), (Value.bool (decB (dataL lr 28))), (zf98 12), (zf98 13), (zf98 14)] ++ (zs zf39 15 15 ++ (zs zf98 30 39 ++ (zs z 69 12 ++ [(zf98 81)]))))) (by kernel_rfl) (fun zf98 => ?_)
      refine wpIn_seq ?_
      refine plain ?_
      refine wpL.is rfl (d_move rfl) ?_
      refine wpL.is rfl (d_move rfl) ?_
      refine wpL.is rfl (d_index1 (n := 3) (i := 1) Try.underlying43 s_ti22 rfl (show _ = Value.int _ ((1 : Nat) : Int) from rfl) (by omega)) ?_
      refine wpL.flat (zs zf39 0 6 ++ [(zf98 6), (sli b34 0 3 3), (eN 1), u92, (eN (decN (dataL lr 28))), (Value.bool (decB (dataL lr 28))), (zf98 12), (zf98 13), (zf98 14)] ++ (zs zf39 15 15 ++ (zs zf98 30 16 ++ [(sli b34 0 3 3), (eN 1), (ptr b34 1)] ++ (zs zf98 49 20 ++ (zs z 69 12 ++ [(zf98 81)]))))) (by kernel_rfl) ?_
      refine wpL.is rfl (d_load (v := u32) ⟨_, Try.underlying22, rfl⟩ rfl a37 rfl) ?_
      refine wpL.op rfl (d_call (xl := [.tmp 49]) (al := [u32]) Try.func30 (by kernel_rfl) rfl rfl rfl (ref4Decode_ok (dataL lr 28) u32 _ (Ps.no f33) (by have := dataL_length lr 28; first | omega | (simp; done) | (simp; omega)))) ?_
      rintro _ w99 ⟨u101, rfl, f102, o100⟩
      replace f102 := f102.less (Y := (Orq bo86 (Or1 b34 (Old W.heap.size)))) (orq_old (fun x hx => by subst hx; exact a87.lt) (or1_old a37.lt (old_old oW.size)))
      replace h1 := h1.step0 o100
      replace h2 := h2.step0 o100
      replace h3 := h3.step0 o100
      replace f17 := f17.step0 o100
      replace f21 := f21.step0 o100
      replace f25 := f25.step0 o100
      replace f29 := f29.step0 o100
      replace f33 := f33.step0 o100
      replace f93 := f93.step0 o100
      replace a37 := a37.step0 o100
      replace a87 := a87.step0 o100
      replace oW := oW.tail0 o100
      replace o40 := o40.tail0 o100
      refine wpL.is rfl (d_move rfl) ?_
      refine wpL.flat (zs zf39 0 6 ++ [(zf98 6), (sli b34 0 3 3), (eN 1), u92, (eN (decN (dataL lr 28))), (Value.bool (decB (dataL lr 28))), (zf98 12), (zf98 13), (zf98 14)] ++ (zs zf39 15 15 ++ (zs zf98 30 15 ++ [(Value.tuple #[u101, (eN (decN (dataL lr 28))), (Value.bool (decB (dataL lr 28)))]), (sli b34 0 3 3), (eN 1), (ptr b34 1), u32, (Value.tuple #[u101, (eN (decN (dataL lr 28))), (Value.bool (decB (dataL lr 28)))])] ++ (zs zf98 51 18 ++ (zs z 69 12 ++ [(zf98 81)]))))) (by kernel_rfl) ?_
      refine wpL.is rfl (d_extract (v := u101) rfl rfl) ?_
      refine wpL.is rfl (d_extract (v := (eN (decN (dataL lr 28)))) rfl rfl) ?_
      refine wpL.is rfl (d_extract (v := (Value.bool (decB (dataL lr 28)))) rfl rfl) ?_
      refine wpL.flat (zs zf39 0 6 ++ [(zf98 6), (sli b34 0 3 3), (eN 1), u92, (eN (decN (dataL lr 28))), (Value.bool (decB (dataL lr 28))), (zf98 12), (zf98 13), (zf98 14)] ++ (zs zf39 15 15 ++ (zs zf98 30 15 ++ [(Value.tuple #[u101, (eN (decN (dataL lr 28))), (Value.bool (decB (dataL lr 28)))]), (sli b34 0 3 3), (eN 1), (ptr b34 1), u32, (Value.tuple #[u101, (eN (decN (dataL lr 28))), (Value.bool (decB (dataL lr 28)))]), u101, (eN (decN (dataL lr 28))), (Value.bool (decB (dataL lr 28)))] ++ (zs zf98 54 15 ++ (zs z 69 12 ++ [(zf98 81)]))))) (by kernel_rfl) ?_
      refine wpL.is rfl (d_assign rfl) ?_
      refine wpL.is rfl (d_assign rfl) ?_
      refine wpL.is rfl (d_assign rfl) ?_
      refine wpL.flat (zs zf39 0 6 ++ [(zf98 6), (sli b34 0 3 3), (eN 1), u92, (eN (decN (dataL lr 28))), (Value.bool (decB (dataL lr 28))), u101, (eN (decN (dataL lr 28))), (Value.bool (decB (dataL lr 28)))] ++ (zs zf39 15 15 ++ (zs zf98 30 15 ++ [(Value.tuple #[u101, (eN (decN (dataL lr 28))), (Value.bool (decB (dataL lr 28)))]), (sli b34 0 3 3), (eN 1), (ptr b34 1), u32, (Value.tuple #[u101, (eN (decN (dataL lr 28))), (Value.bool (decB (dataL lr 28)))]), u101, (eN (decN (dataL lr 28))), (Value.bool (decB (dataL lr 28)))] ++ (zs zf98 54 15 ++ (zs z 69 12 ++ [(zf98 81)]))))) (by kernel_rfl) ?_
      refine wpL.done ?_
      refine then_n ?_
      refine forget (fun zf107 => (zs zf39 0 6 ++ [(zf107 6), (sli b34 0 3 3), (eN 1), u92, (eN (decN (dataL lr 28))), (Value.bool (decB (dataL lr 28))), u101, (eN (decN (dataL lr 28))), (Value.bool (decB (dataL lr 28)))] ++ (zs zf39 15 15 ++ (zs zf107 30 39 ++ (zs z 69 12 ++ [(zf107 81)]))))) (by kernel_rfl) (fun zf107 => ?_)
      refine wpIn_seq ?_
      refine wpIn_seq ?_
      refine plain ?_
      refine wpL.is rfl (d_move rfl) ?_
      refine wpL.is rfl (d_str Try.underlying22 Try.underlying5 Try.underlying9 rfl f93) ?_
      refine wpL.is rfl (d_move rfl) ?_
      refine wpL.flat (zs zf39 0 6 ++ [(zf107 6), (sli b34 0 3 3), (eN 1), u92, (eN (decN (dataL lr 28))), (Value.bool (decB (dataL lr 28))), u101, (eN (decN (dataL lr 28))), (Value.bool (decB (dataL lr 28)))] ++ (zs zf39 15 15 ++ (zs zf107 30 24 ++ [u92, (Value.string (strOf (decD (dataL lr 28)))), u101] ++ (zs zf107 57 12 ++ (zs z 69 12 ++ [(zf107 81)]))))) (by kernel_rfl) ?_
      refine wpL.is rfl (d_str Try.underlying22 Try.underlying5 Try.underlying9 rfl f102) ?_
      refine wpL.is rfl (d_sneq (a := (decD (dataL lr 28))) (c := (decD (dataL lr 28))) rfl rfl (by rw [decide_eq_true rfl] <;> rfl)) ?_
      refine wpL.is rfl (d_move rfl) ?_
      refine wpL.flat (zs zf39 0 6 ++ [(zf107 6), (sli b34 0 3 3), (eN 1), u92, (eN (decN (dataL lr 28))), (Value.bool (decB (dataL lr 28))), u101, (eN (decN (dataL lr 28))), (Value.bool (decB (dataL lr 28)))] ++ (zs zf39 15 15 ++ (zs zf107 30 24 ++ [u92, (Value.string (strOf (decD (dataL lr 28)))), u101, (Value.string (strOf (decD (dataL lr 28)))), (Value.bool false), (Value.bool false)] ++ (zs zf107 60 9 ++ (zs z 69 12 ++ [(zf107 81)]))))) (by kernel_rfl) ?_
      refine wpL.onis rfl rfl rfl (Nat.le_of_ble_eq_true rfl) rfl (d_move rfl) ?_
      refine wpL.onis rfl rfl rfl (Nat.le_of_ble_eq_true rfl) rfl (d_move rfl) ?_
      refine wpL.onis rfl rfl rfl (Nat.le_of_ble_eq_true rfl) rfl (n_neq (a := (decN (dataL lr 28))) (b := (decN (dataL lr 28))) rfl rfl (by rw [decide_eq_true rfl] <;> rfl)) ?_
      refine wpL.flat (zs zf39 0 6 ++ [(zf107 6), (sli b34 0 3 3), (eN 1), u92, (eN (decN (dataL lr 28))), (Value.bool (decB (dataL lr 28))), u101, (eN (decN (dataL lr 28))), (Value.bool (decB (dataL lr 28)))] ++ (zs zf39 15 15 ++ (zs zf107 30 24 ++ [u92, (Value.string (strOf (decD (dataL lr 28)))), u101, (Value.string (strOf (decD (dataL lr 28)))), (Value.bool false), (Value.bool false), (eN (decN (dataL lr 28))), (eN (decN (dataL lr 28))), (Value.bool false)] ++ (zs zf107 63 6 ++ (zs z 69 12 ++ [(zf107 81)]))))) (by kernel_rfl) ?_
      refine wpL.is rfl (d_pick (b := false) (v := (Value.bool false)) rfl rfl) ?_
      refine wpL.is rfl (d_move rfl) ?_
      refine wpL.onis rfl rfl rfl (Nat.le_of_ble_eq_true rfl) rfl (d_move rfl) ?_
      refine wpL.flat (zs zf39 0 6 ++ [(zf107 6), (sli b34 0 3 3), (eN 1), u92, (eN (decN (dataL lr 28))), (Value.bool (decB (dataL lr 28))), u101, (eN (decN (dataL lr 28))), (Value.bool (decB (dataL lr 28)))] ++ (zs zf39 15 15 ++ (zs zf107 30 24 ++ [u92, (Value.string (strOf (decD (dataL lr 28)))), u101, (Value.string (strOf (decD (dataL lr 28)))), (Value.bool false), (Value.bool false), (eN (decN (dataL lr 28))), (eN (decN (dataL lr 28))), (Value.bool false), (Value.bool false), (Value.bool false), (Value.bool (decB (dataL lr 28))), (zf107 66), (zf107 67), (zf107 68)] ++ (zs z 69 12 ++ [(zf107 81)])))) (by kernel_rfl) ?_
      refine wpL.onis rfl rfl rfl (Nat.le_of_ble_eq_true rfl) rfl (d_move rfl) ?_
      refine wpL.onis rfl rfl rfl (Nat.le_of_ble_eq_true rfl) rfl (d_bneq Try.underlying4 rfl rfl (bne_self_eq_false _)) ?_
      refine wpL.is rfl (d_pick (b := false) (v := (Value.bool false)) rfl rfl) ?_
      refine wpL.flat (zs zf39 0 6 ++ [(zf107 6), (sli b34 0 3 3), (eN 1), u92, (eN (decN (dataL lr 28))), (Value.bool (decB (dataL lr 28))), u101, (eN (decN (dataL lr 28))), (Value.bool (decB (dataL lr 28)))] ++ (zs zf39 15 15 ++ (zs zf107 30 24 ++ [u92, (Value.string (strOf (decD (dataL lr 28)))), u101, (Value.string (strOf (decD (dataL lr 28)))), (Value.bool false), (Value.bool false), (eN (decN (dataL lr 28))), (eN (decN (dataL lr 28))), (Value.bool false), (Value.bool false), (Value.bool false), (Value.bool (decB (dataL lr 28))), (Value.bool (decB (dataL lr 28))), (Value.bool false), (Value.bool false)] ++ (zs z 69 12 ++ [(zf107 81)])))) (by kernel_rfl) ?_
      refine wpL.done ?_
      refine then_n ?_
      refine forget (fun zf108 => (zs zf39 0 6 ++ [(zf108 6), (sli b34 0 3 3), (eN 1), u92, (eN (decN (dataL lr 28))), (Value.bool (decB (dataL lr 28))), (zf108 12), (zf108 13), (zf108 14)] ++ (zs zf39 15 15 ++ (zs zf108 30 38 ++ [(Value.bool false)] ++ (zs z 69 12 ++ [(zf108 81)]))))) (by kernel_rfl) (fun zf108 => ?_)
      refine cond_f rfl ?_
      refine wpIn_skip ?_
      refine then_n ?_
      refine wpIn_seq ?_
      by_cases d0 : decB (dataL lr 28) = true
      ·
       refine wp_eq (l' := (zs zf39 0 6 ++ [(zf108 6), (sli b34 0 3 3), (eN 1), u92, (eN (decN (dataL lr 28))), (Value.bool true), (zf108 12), (zf108 13), (zf108 14)] ++ (zs zf39 15 15 ++ (zs zf108 30 38 ++ [(Value.bool false)] ++ (zs z 69 12 ++ [(zf108 81)]))))) (show ((zs zf39 0 6 ++ [(zf108 6), (sli b34 0 3 3), (eN 1), u92, (eN (decN (dataL lr 28))), (Value.bool (decB (dataL lr 28))), (zf108 12), (zf108 13), (zf108 14)] ++ (zs zf39 15 15 ++ (zs zf108 30 38 ++ [(Value.bool false)] ++ (zs z 69 12 ++ [(zf108 81)])))) : List Value) = (zs zf39 0 6 ++ [(zf108 6), (sli b34 0 3 3), (eN 1), u92, (eN (decN (dataL lr 28))), (Value.bool true), (zf108 12), (zf108 13), (zf108 14)] ++ (zs zf39 15 15 ++ (zs zf108 30 38 ++ [(Value.bool false)] ++ (zs z 69 12 ++ [(zf108 81)])))) from reslot (zs zf39 0 6 ++ [(zf108 6), (sli b34 0 3 3), (eN 1), u92, (eN (decN (dataL lr 28))), (Value.bool (decB (dataL lr 28))), (zf108 12), (zf108 13), (zf108 14)] ++ (zs zf39 15 15 ++ (zs zf108 30 38 ++ [(Value.bool false)] ++ (zs z 69 12 ++ [(zf108 81)])))) 11 (congrArg Value.bool d0)) ?_
       refine drawn' (O := (Orq bo86 (Or1 b34 No))) (n := 13) [0, 1, 3, 7, 3, 3, 51, 115, 255, 511, 3, 2047, 4095] [(0, 69), (1, 70), (2, 71), (3, 72), (4, 73), (5, 74), (6, 75), (7, 76), (8, 77), (9, 78), (10, 79), (11, 80), (12, 81)] [0, 1, 2, 3, 4, 5, 6, 7, 8, 9, 10, 11, 12] [] (fun i_ => ([RF.is (Orq bo86 (Or1 b34 No)) (Value.bool true), RF.is (Orq bo86 (Or1 b34 No)) (Value.bool true), RF.is (Orq bo86 (Or1 b34 No)) u92, RF.ps (Orq bo86 (Or1 b34 No)) (Orq bo86 (Or1 b34 (Old W.heap.size))) (Seq kB (encR (decD (dataL lr 28)))) (orq_mono (or1_mono no_any)), RF.is (Orq bo86 (Or1 b34 No)) (sli b34 0 3 3), RF.is (Orq bo86 (Or1 b34 No)) (eN 1), RF.is (Orq bo86 (Or1 b34 No)) (ptr b34 1), RF.is (Orq bo86 (Or1 b34 No)) u32, RF.ps (Orq bo86 (Or1 b34 No)) (Orq bo86 (Or1 b34 (Old W.heap.size))) (Seq kN (apR (encR (decD (dataL lr 28))) (dataL lr 28))) (orq_mono (or1_mono no_any)), RF.is (Orq bo86 (Or1 b34 No)) (eN ((apR (encR (decD (dataL lr 28))) (dataL lr 28)).length)), RF.is (Orq bo86 (Or1 b34 No)) (eN (decN (dataL lr 28))), RF.is (Orq bo86 (Or1 b34 No)) (Value.bool false), RF.is (Orq bo86 (Or1 b34 No)) (Value.bool false)] : List (RF (Orq bo86 (Or1 b34 No)))).getD i_ (RF.any (Orq bo86 (Or1 b34 No)))) (fun _ w_ => Arr 22 b34 [u28, u32, u3] w_ ∧ Ow 5 1 bo86 u84 ((dataL lr 28)).length (((dataL lr 28)).map eB) w_) (fun v109 => (zs zf39 0 6 ++ [(zf108 6), (sli b34 0 3 3), (eN 1), u92, (eN (decN (dataL lr 28))), (Value.bool true), (zf108 12), (zf108 13), (zf108 14)] ++ (zs zf39 15 15 ++ (zs zf108 30 38 ++ [(Value.bool false), (v109 0), (v109 1), (v109 2), (v109 3), (v109 4), (v109 5), (v109 6), (v109 7), (v109 8), (v109 9), (v109 10), (v109 11), (v109 12)])))) s_mx (by kernel_rfl) rfl (by kernel_rfl) (by rfl) (fun v_ => by kernel_rfl) (fun _ => fun w_ w2_ h ho => by obtain ⟨r_a37, r_a87⟩ := h; exact ⟨r_a37.step0 ho, r_a87.step0 ho⟩) ⟨a37, a87⟩ ?_ ?_ ?_
       ·
        refine ls_cons ?_ ?_
        ·
         intro v109 lo hi w_ k_ hO hd _ _ hk_ _ hR hold
         obtain ⟨r_a37, r_a87⟩ := hR
         clear hd hold
         refine ⟨_, rfl, gd rfl ?_⟩
         exact Does.is (d_move rfl)
        refine ls_cons ?_ ?_
        ·
         intro v109 lo hi w_ k_ hO hd _ _ hk_ _ hR hold
         obtain ⟨r_a37, r_a87⟩ := hR
         have e0 : v109 0 = (Value.bool true) := hd 0 (by kernel_rfl)
         clear hd hold
         refine ⟨_, rfl, gd rfl ?_⟩
         exact Does.is (d_move (v := (Value.bool true)) e0)
        refine ls_cons ?_ ?_
        ·
         intro v109 lo hi w_ k_ hO hd _ _ hk_ _ hR hold
         obtain ⟨r_a37, r_a87⟩ := hR
         have e1 : v109 1 = (Value.bool true) := hd 1 (by kernel_rfl)
         clear hd hold
         refine ⟨_, rfl, gd_on rfl rfl rfl (Nat.le_of_ble_eq_true rfl) e1 ?_⟩
         exact Does.is (d_move rfl)
        refine ls_cons ?_ ?_
        ·
         intro v109 lo hi w_ k_ hO hd _ _ hk_ _ hR hold
         obtain ⟨r_a37, r_a87⟩ := hR
         have e1 : v109 1 = (Value.bool true) := hd 1 (by kernel_rfl)
         have e2 : v109 2 = u92 := hd 2 (by kernel_rfl)
         clear hd hold
         refine ⟨_, rfl, gd_on rfl rfl rfl (Nat.le_of_ble_eq_true rfl) e1 ?_⟩
         refine Does.mono (R := ROw 5 eB (encR (decD (dataL lr 28))) w_) ?_ (fun u w' h => ⟨(h.ps).1.less (orq_old (fun x hx => by subst hx; exact r_a87.lt) (or1_old r_a37.lt (old_old (Nat.le_trans oW.size hO.size)))), (h.ps).2⟩)
         exact d_call (xl := [.tmp 71]) (al := [u92]) Try.func15 (by kernel_rfl) rfl (show ([(v109 2)] : List Value) = [u92] from by rw [e2]) rfl (bchEncode_ok (decD (dataL lr 28)) u92 _ (Ps.no (f93.step hO (orq_mono (or1_mono no_any)))) (by have := decD_len (dataL lr 28); have := dataL_length lr 28; first | omega | (simp; done) | (simp; omega)))
        refine ls_cons ?_ ?_
        ·
         intro v109 lo hi w_ k_ hO hd _ _ hk_ _ hR hold
         obtain ⟨r_a37, r_a87⟩ := hR
         have e1 : v109 1 = (Value.bool true) := hd 1 (by kernel_rfl)
         clear hd hold
         refine ⟨_, rfl, gd_on rfl rfl rfl (Nat.le_of_ble_eq_true rfl) e1 ?_⟩
         exact Does.is (d_move rfl)
        refine ls_cons ?_ ?_
        ·
         intro v109 lo hi w_ k_ hO hd _ _ hk_ _ hR hold
         obtain ⟨r_a37, r_a87⟩ := hR
         have e1 : v109 1 = (Value.bool true) := hd 1 (by kernel_rfl)
         clear hd hold
         refine ⟨_, rfl, gd_on rfl rfl rfl (Nat.le_of_ble_eq_true rfl) e1 ?_⟩
         exact Does.is (d_move rfl)
        refine ls_cons ?_ ?_
        ·
         intro v109 lo hi w_ k_ hO hd _ _ hk_ _ hR hold
         obtain ⟨r_a37, r_a87⟩ := hR
         have e1 : v109 1 = (Value.bool true) := hd 1 (by kernel_rfl)
         have e4 : v109 4 = (sli b34 0 3 3) := hd 4 (by kernel_rfl)
         have e5 : v109 5 = (eN 1) := hd 5 (by kernel_rfl)
         clear hd hold
         refine ⟨_, rfl, gd_on rfl rfl rfl (Nat.le_of_ble_eq_true rfl) e1 ?_⟩
         exact Does.is (d_index1 (n := 3) (i := 1) Try.underlying43 s_ti22 e4 (show _ = Value.int _ ((1 : Nat) : Int) from e5) (by omega))
        refine ls_cons ?_ ?_
        ·
         intro v109 lo hi w_ k_ hO hd _ _ hk_ _ hR hold
         obtain ⟨r_a37, r_a87⟩ := hR
         have e1 : v109 1 = (Value.bool true) := hd 1 (by kernel_rfl)
         have e6 : v109 6 = (ptr b34 1) := hd 6 (by kernel_rfl)
         clear hd hold
         refine ⟨_, rfl, gd_on rfl rfl rfl (Nat.le_of_ble_eq_true rfl) e1 ?_⟩
         exact Does.is (d_load (v := u32) ⟨_, Try.underlying22, rfl⟩ e6 r_a37 rfl)
        refine ls_cons ?_ ?_
        ·
         intro v109 lo hi w_ k_ hO hd _ _ hk_ _ hR hold
         obtain ⟨r_a37, r_a87⟩ := hR
         have e1 : v109 1 = (Value.bool true) := hd 1 (by kernel_rfl)
         have d3 : Ps (Orq bo86 (Or1 b34 (Old W.heap.size))) (Seq kB (encR (decD (dataL lr 28))) (v109 3)) w_ := hd 3 (by kernel_rfl)
         have e7 : v109 7 = u32 := hd 7 (by kernel_rfl)
         clear hd hold
         refine ⟨_, rfl, gd_on rfl rfl rfl (Nat.le_of_ble_eq_true rfl) e1 ?_⟩
         refine Does.mono (R := ROw 3 eN (apR (encR (decD (dataL lr 28))) (dataL lr 28)) w_) ?_ (fun u w' h => ⟨(h.ps).1.less (orq_old (fun x hx => by subst hx; exact r_a87.lt) (or1_old r_a37.lt (old_old (Nat.le_trans oW.size hO.size)))), (h.ps).2⟩)
         exact d_call (xl := [.tmp 72, .tmp 76]) (al := [(v109 3), u32]) Try.func16 (by kernel_rfl) rfl (show ([(v109 3), (v109 7)] : List Value) = [(v109 3), u32] from by rw [e7]) rfl (ref6Apart_ok (encR (decD (dataL lr 28))) (dataL lr 28) (v109 3) u32 _ (Ps.no d3) (Ps.no (f33.step hO (orq_mono (or1_mono no_any)))) (by have := decD_len (dataL lr 28); have := dataL_length lr 28; have := encR_len (decD (dataL lr 28)); first | omega | (simp; done) | (simp; omega)) (by have := dataL_length lr 28; first | omega | (simp; done) | (simp; omega)))
        refine ls_cons ?_ ?_
        ·
         intro v109 lo hi w_ k_ hO hd _ _ hk_ _ hR hold
         obtain ⟨r_a37, r_a87⟩ := hR
         have e1 : v109 1 = (Value.bool true) := hd 1 (by kernel_rfl)
         have d8 : Ps (Orq bo86 (Or1 b34 (Old W.heap.size))) (Seq kN (apR (encR (decD (dataL lr 28))) (dataL lr 28)) (v109 8)) w_ := hd 8 (by kernel_rfl)
         clear hd hold
         refine ⟨_, rfl, gd_on rfl rfl rfl (Nat.le_of_ble_eq_true rfl) e1 ?_⟩
         exact Does.is (d_lenS rfl Try.underlying26 rfl d8)
        refine ls_cons ?_ ?_
        ·
         intro v109 lo hi w_ k_ hO hd _ _ hk_ _ hR hold
         obtain ⟨r_a37, r_a87⟩ := hR
         have e1 : v109 1 = (Value.bool true) := hd 1 (by kernel_rfl)
         clear hd hold
         refine ⟨_, rfl, gd_on rfl rfl rfl (Nat.le_of_ble_eq_true rfl) e1 ?_⟩
         exact Does.is (d_move rfl)
        refine ls_cons ?_ ?_
        ·
         intro v109 lo hi w_ k_ hO hd _ _ hk_ _ hR hold
         obtain ⟨r_a37, r_a87⟩ := hR
         have e1 : v109 1 = (Value.bool true) := hd 1 (by kernel_rfl)
         have e10 : v109 10 = (eN (decN (dataL lr 28))) := hd 10 (by kernel_rfl)
         have e9 : v109 9 = (eN ((apR (encR (decD (dataL lr 28))) (dataL lr 28)).length)) := hd 9 (by kernel_rfl)
         clear hd hold
         refine ⟨_, rfl, gd_on rfl rfl rfl (Nat.le_of_ble_eq_true rfl) e1 ?_⟩
         exact Does.is (n_neq (a := ((apR (encR (decD (dataL lr 28))) (dataL lr 28)).length)) (b := (decN (dataL lr 28))) e9 e10 (by rw [decide_eq_true (dec_apart d0)] <;> rfl))
        refine ls_cons ?_ ?_
        ·
         intro v109 lo hi w_ k_ hO hd _ _ hk_ _ hR hold
         obtain ⟨r_a37, r_a87⟩ := hR
         have e1 : v109 1 = (Value.bool true) := hd 1 (by kernel_rfl)
         have e11 : v109 11 = (Value.bool false) := hd 11 (by kernel_rfl)
         clear hd hold
         refine ⟨_, rfl, gd rfl ?_⟩
         exact Does.is (d_pick (b := true) (v := (Value.bool false)) e1 e11)
        exact ls_nil
       ·
        exact ms_nil
       intro v109 lo_ hi_ w110 o111 hd iv_ hR
       have e0 : v109 0 = (Value.bool true) := hd 0 (by decide)
       have e1 : v109 1 = (Value.bool true) := hd 1 (by decide)
       have e2 : v109 2 = u92 := hd 2 (by decide)
       have e4 : v109 4 = (sli b34 0 3 3) := hd 4 (by decide)
       have e5 : v109 5 = (eN 1) := hd 5 (by decide)
       have e6 : v109 6 = (ptr b34 1) := hd 6 (by decide)
       have e7 : v109 7 = u32 := hd 7 (by decide)
       have e9 : v109 9 = (eN ((apR (encR (decD (dataL lr 28))) (dataL lr 28)).length)) := hd 9 (by decide)
       have e10 : v109 10 = (eN (decN (dataL lr 28))) := hd 10 (by decide)
       have e11 : v109 11 = (Value.bool false) := hd 11 (by decide)
       have e12 : v109 12 = (Value.bool false) := hd 12 (by decide)
       have f_v109_3 : Ps (Orq bo86 (Or1 b34 (Old W.heap.size))) (Seq kB (encR (decD (dataL lr 28))) (v109 3)) w110 := hd 3 (by decide)
       have f_v109_8 : Ps (Orq bo86 (Or1 b34 (Old W.heap.size))) (Seq kN (apR (encR (decD (dataL lr 28))) (dataL lr 28)) (v109 8)) w110 := hd 8 (by decide)
       clear hd iv_ lo_ hi_
       refine fr_eq (l' := (zs zf39 0 6 ++ [(zf108 6), (sli b34 0 3 3), (eN 1), u92, (eN (decN (dataL lr 28))), (Value.bool true), (zf108 12), (zf108 13), (zf108 14)] ++ (zs zf39 15 15 ++ (zs zf108 30 38 ++ [(Value.bool false), (Value.bool true), (Value.bool true), u92, (v109 3), (sli b34 0 3 3), (eN 1), (ptr b34 1), u32, (v109 8), (eN ((apR (encR (decD (dataL lr 28))) (dataL lr 28)).length)), (eN (decN (dataL lr 28))), (Value.bool false), (Value.bool false)])))) (by rw [e0, e1, e2, e4, e5, e6, e7, e9, e10, e11, e12] <;> rfl) ?_
       clear e0 e1 e2 e4 e5 e6 e7 e9 e10 e11 e12
       replace h1 := h1.step o111 (orq_mono (or1_mono no_any))
       replace h2 := h2.step o111 (orq_mono (or1_mono no_any))
       replace h3 := h3.step o111 (orq_mono (or1_mono no_any))
       replace f17 := f17.step o111 (orq_mono (or1_mono no_any))
       replace f21 := f21.step o111 (orq_mono (or1_mono no_any))
       replace f25 := f25.step o111 (orq_mono (or1_mono no_any))
       replace f29 := f29.step o111 (orq_mono (or1_mono no_any))
       replace f33 := f33.step o111 (orq_mono (or1_mono no_any))
       replace f93 := f93.step o111 (orq_mono (or1_mono no_any))
       replace f102 := f102.step o111 (orq_mono (or1_mono no_any))
       obtain ⟨xr_a37, xr_a87⟩ := hR
       replace a37 : Arr 22 b34 [u28, u32, u3] w110 := xr_a37
       replace a87 : Ow 5 1 bo86 u84 ((dataL lr 28)).length (((dataL lr 28)).map eB) w110 := xr_a87
       clear xr_a37 xr_a87
       replace oW := oW.tail o111 (tl_q q_oW_cp (fun _ e => by cases e) (tl_new g_oW_b34 tl_no))
       replace o40 := o40.tail o111 (tl_q q_o40_cp (fun _ e => by cases e) (tl_in in1 tl_no))
       refine then_n ?_
       refine cond_f rfl ?_
       refine wpIn_skip ?_
       refine inb_n (then_n ?_)
       refine plain ?_
       refine wpL.is rfl (d_move rfl) ?_
       refine wpL.is rfl (n_add (a := 1) (b := 1) rfl rfl (by omega)) ?_
       refine wpL.is rfl (d_assign rfl) ?_
       refine wpL.flat (zs zf39 0 6 ++ [(zf108 6), (sli b34 0 3 3), (eN 2), u92, (eN (decN (dataL lr 28))), (Value.bool true), (zf108 12), (zf108 13), (zf108 14)] ++ (zs zf39 15 15 ++ [(zf108 30), (zf108 31), (eN 1), (eN 2)] ++ (zs zf108 34 34 ++ [(Value.bool false), (Value.bool true), (Value.bool true), u92, (v109 3), (sli b34 0 3 3), (eN 1), (ptr b34 1), u32, (v109 8), (eN ((apR (encR (decD (dataL lr 28))) (dataL lr 28)).length)), (eN (decN (dataL lr 28))), (Value.bool false), (Value.bool false)]))) (by kernel_rfl) ?_
       refine wpL.done ?_
       refine then_n ?_
       refine ⟨_, 2, rfl, rfl, ⟨?_, ?_, ?_⟩, ?_⟩
       ·
        (try dsimp only)
        all_goals (omega)
       ·
        (try dsimp only)
        all_goals (exact o40)
       ·
        (try dsimp only)
        all_goals (exact a37)
       ·
        (try dsimp only)
        all_goals (omega)
      ·
       refine wp_eq (l' := (zs zf39 0 6 ++ [(zf108 6), (sli b34 0 3 3), (eN 1), u92, (eN (decN (dataL lr 28))), (Value.bool false), (zf108 12), (zf108 13), (zf108 14)] ++ (zs zf39 15 15 ++ (zs zf108 30 38 ++ [(Value.bool false)] ++ (zs z 69 12 ++ [(zf108 81)]))))) (show ((zs zf39 0 6 ++ [(zf108 6), (sli b34 0 3 3), (eN 1), u92, (eN (decN (dataL lr 28))), (Value.bool (decB (dataL lr 28))), (zf108 12), (zf108 13), (zf108 14)] ++ (zs zf39 15 15 ++ (zs zf108 30 38 ++ [(Value.bool false)] ++ (zs z 69 12 ++ [(zf108 81)])))) : List Value) = (zs zf39 0 6 ++ [(zf108 6), (sli b34 0 3 3), (eN 1), u92, (eN (decN (dataL lr 28))), (Value.bool false), (zf108 12), (zf108 13), (zf108 14)] ++ (zs zf39 15 15 ++ (zs zf108 30 38 ++ [(Value.bool false)] ++ (zs z 69 12 ++ [(zf108 81)])))) from reslot (zs zf39 0 6 ++ [(zf108 6), (sli b34 0 3 3), (eN 1), u92, (eN (decN (dataL lr 28))), (Value.bool (decB (dataL lr 28))), (zf108 12), (zf108 13), (zf108 14)] ++ (zs zf39 15 15 ++ (zs zf108 30 38 ++ [(Value.bool false)] ++ (zs z 69 12 ++ [(zf108 81)])))) 11 (congrArg Value.bool (Bool.eq_false_iff.2 d0))) ?_
       refine drawn_pure [0, 1, 3, 7, 3, 3, 51, 115, 255, 511, 3, 2047, 4095] [(0, 69), (1, 70), (2, 71), (3, 72), (4, 73), (5, 74), (6, 75), (7, 76), (8, 77), (9, 78), (10, 79), (11, 80), (12, 81)] [(Value.bool false), (Value.bool false), undef, undef, undef, undef, undef, undef, undef, undef, undef, undef, (Value.bool false)] (zs zf39 0 6 ++ [(zf108 6), (sli b34 0 3 3), (eN 1), u92, (eN (decN (dataL lr 28))), (Value.bool false), (zf108 12), (zf108 13), (zf108 14)] ++ (zs zf39 15 15 ++ (zs zf108 30 38 ++ [(Value.bool false), (Value.bool false), (Value.bool false)] ++ (us 10 ++ [(Value.bool false)])))) s_mx (by kernel_rfl) (by kernel_rfl) rfl (by kernel_rfl) (by kernel_rfl) ?_ ?_
       ·
        intro w_ hO_
        refine AllG.cons (gi rfl (d_move rfl)) ?_
        refine AllG.cons (gi rfl (d_move rfl)) ?_
        refine AllG.cons (gf rfl rfl rfl (Nat.le_of_ble_eq_true rfl) rfl) ?_
        refine AllG.cons (gf rfl rfl rfl (Nat.le_of_ble_eq_true rfl) rfl) ?_
        refine AllG.cons (gf rfl rfl rfl (Nat.le_of_ble_eq_true rfl) rfl) ?_
        refine AllG.cons (gf rfl rfl rfl (Nat.le_of_ble_eq_true rfl) rfl) ?_
        refine AllG.cons (gf rfl rfl rfl (Nat.le_of_ble_eq_true rfl) rfl) ?_
        refine AllG.cons (gf rfl rfl rfl (Nat.le_of_ble_eq_true rfl) rfl) ?_
        refine AllG.cons (gf rfl rfl rfl (Nat.le_of_ble_eq_true rfl) rfl) ?_
        refine AllG.cons (gf rfl rfl rfl (Nat.le_of_ble_eq_true rfl) rfl) ?_
        refine AllG.cons (gf rfl rfl rfl (Nat.le_of_ble_eq_true rfl) rfl) ?_
        refine AllG.cons (gf rfl rfl rfl (Nat.le_of_ble_eq_true rfl) rfl) ?_
        refine AllG.cons (gi rfl (d_pick (b := false) (v := (Value.bool false)) rfl rfl)) ?_
        exact AllG.nil
       intro w112 o113
       replace h1 := h1.step0 o113
       replace h2 := h2.step0 o113
       replace h3 := h3.step0 o113
       replace f17 := f17.step0 o113
       replace f21 := f21.step0 o113
       replace f25 := f25.step0 o113
       replace f29 := f29.step0 o113
       replace f33 := f33.step0 o113
       replace f93 := f93.step0 o113
       replace f102 := f102.step0 o113
       replace a37 := a37.step0 o113
       replace a87 := a87.step0 o113
       replace oW := oW.tail0 o113
       replace o40 := o40.tail0 o113
       refine then_n ?_
       refine cond_f rfl ?_
       refine wpIn_skip ?_
       refine inb_n (then_n ?_)
       refine plain ?_
       refine wpL.is rfl (d_move rfl) ?_
       refine wpL.is rfl (n_add (a := 1) (b := 1) rfl rfl (by omega)) ?_
       refine wpL.is rfl (d_assign rfl) ?_
       refine wpL.flat (zs zf39 0 6 ++ [(zf108 6), (sli b34 0 3 3), (eN 2), u92, (eN (decN (dataL lr 28))), (Value.bool false), (zf108 12), (zf108 13), (zf108 14)] ++ (zs zf39 15 15 ++ [(zf108 30), (zf108 31), (eN 1), (eN 2)] ++ (zs zf108 34 34 ++ [(Value.bool false), (Value.bool false), (Value.bool false)] ++ (us 10 ++ [(Value.bool false)])))) (by kernel_rfl) ?_
       refine wpL.done ?_
       refine then_n ?_
       refine ⟨_, 2, rfl, rfl, ⟨?_, ?_, ?_⟩, ?_⟩
       ·
        (try dsimp only)
        all_goals (omega)
       ·
        (try dsimp only)
        all_goals (exact o40)
       ·
        (try dsimp only)
        all_goals (exact a37)
       ·
        (try dsimp only)
        all_goals (omega)
     ·
      obtain rfl : i = 2 := by omega
      refine wp_eq (l' := (zs zf39 0 6 ++ [(z 6), (sli b34 0 3 3), (eN 2)] ++ (zs z 9 6 ++ (zs zf39 15 15 ++ [(eN 2), (Value.bool (decide (2 < 3)))] ++ (zs z 32 50))))) rfl ?_
      refine plain ?_
      refine wpL.op rfl (d_buildL (cs := []) Try.underlying22 s_ti5 rfl (Nat.le_of_ble_eq_true rfl) parts_nil rfl) ?_
      rintro _ w115 ⟨b114, rfl, g116, a117, o118⟩
      replace a117 : Arr 5 b114 (([] : List UInt8).map eB) w115 := a117
      have l_b114 : ([] : List UInt8).length = 0 := rfl
      have n_b34_b114 : b34 ≠ b114 := a37.ne g116
      have g_oW_b114 : W.heap.size ≤ b114 := Nat.le_trans oW.size g116
      have g_o40_b114 : w35.heap.size ≤ b114 := Nat.le_trans o40.size g116
      replace h1 := h1.new o118 g116
      replace h2 := h2.new o118 g116
      replace h3 := h3.new o118 g116
      replace f17 := f17.new o118 g116
      replace f21 := f21.new o118 g116
      replace f25 := f25.new o118 g116
      replace f29 := f29.new o118 g116
      replace f33 := f33.new o118 g116
      replace a37 := a37.step0 o118
      replace oW := oW.tail0 o118
      replace o40 := o40.tail0 o118
      refine wpL.is rfl (d_move rfl) ?_
      refine wpL.is rfl (d_move rfl) ?_
      refine wpL.flat (zs zf39 0 6 ++ [(z 6), (sli b34 0 3 3), (eN 2)] ++ (zs z 9 6 ++ (zs zf39 15 15 ++ [(eN 2), (Value.bool (decide (2 < 3))), (z 32), (z 33), (z 34), (sli b114 0 0 0), (sli b34 0 3 3), (eN 2)] ++ (zs z 38 44)))) (by kernel_rfl) ?_
      refine wpL.is rfl (d_index1 (n := 3) (i := 2) Try.underlying43 s_ti22 rfl (show _ = Value.int _ ((2 : Nat) : Int) from rfl) (by omega)) ?_
      refine wpL.is rfl (d_load (v := u3) ⟨_, Try.underlying22, rfl⟩ rfl a37 rfl) ?_
      have a119 := Ow.of_map2 a117 l_b114
      have nq_cp_b34 := nq_b (Ne.symm n_b34_b114)
      have q_oW_cp : Fr (some b114) none W.heap.size := Fr.new g_oW_b114
      have q_o40_cp : Fr (some b114) none w35.heap.size := Fr.new g_o40_b114
      replace h1 := h1.less (Y := (Orq (some b114) (Or1 b34 No))) (xx_br (xx_or1 xx_id))
      replace h2 := h2.less (Y := (Orq (some b114) (Or1 b34 No))) (xx_br (xx_or1 xx_id))
      replace h3 := h3.less (Y := (Orq (some b114) (Or1 b34 No))) (xx_br (xx_or1 xx_id))
      replace f17 := f17.less (Y := (Orq (some b114) (Or1 b34 (Old W.heap.size)))) (xx_br (xx_or1 xx_id))
      replace f21 := f21.less (Y := (Orq (some b114) (Or1 b34 (Old W.heap.size)))) (xx_br (xx_or1 xx_id))
      replace f25 := f25.less (Y := (Orq (some b114) (Or1 b34 (Old W.heap.size)))) (xx_br (xx_or1 xx_id))
      replace f29 := f29.less (Y := (Orq (some b114) (Or1 b34 (Old W.heap.size)))) (xx_br (xx_or1 xx_id))
      replace f33 := f33.less (Y := (Orq (some b114) (Or1 b34 (Old W.heap.size)))) (xx_br (xx_or1 xx_id))
      refine wpL.op rfl (d_append Try.underlying22 Try.underlying22 s_ti5 rfl rfl rfl a119 (SrcV.of_seq h3 (fun _ => rfl)) (by simp only [List.length_nil, flipL_length, dataL_length]; (try have := encR_len (dataL la 24)); omega) (by simp only [List.length_nil, flipL_length, dataL_length]; (try have := encR_len (dataL la 24)); omega) rfl) ?_
      rintro u120 w121 ⟨bo122, a123, o124, q125⟩
      replace a123 : Ow 5 1 bo122 u120 (lr).length ((lr).map eB) w121 := by simpa using a123
      replace h1 := h1.gr o124 (fun k e => (.inl e)) (xx_re (Fr.of_or q125) (xx_or1 xx_id))
      replace h2 := h2.gr o124 (fun k e => (.inl e)) (xx_re (Fr.of_or q125) (xx_or1 xx_id))
      replace h3 := h3.gr o124 (fun k e => (.inl e)) (xx_re (Fr.of_or q125) (xx_or1 xx_id))
      replace f17 := f17.gr o124 (fun k e => (.inl e)) (xx_re (Fr.of_or q125) (xx_or1 xx_id))
      replace f21 := f21.gr o124 (fun k e => (.inl e)) (xx_re (Fr.of_or q125) (xx_or1 xx_id))
      replace f25 := f25.gr o124 (fun k e => (.inl e)) (xx_re (Fr.of_or q125) (xx_or1 xx_id))
      replace f29 := f29.gr o124 (fun k e => (.inl e)) (xx_re (Fr.of_or q125) (xx_or1 xx_id))
      replace f33 := f33.gr o124 (fun k e => (.inl e)) (xx_re (Fr.of_or q125) (xx_or1 xx_id))
      have nq2 := nqs nq_cp_b34 (Fr.of_or q125) a37.lt
      replace a37 := a37.step o124 (fun e => nq_cp_b34 _ e rfl)
      replace nq_cp_b34 := nq2
      clear nq2
      have tq := oW.size
      replace oW := oW.tailr o124 q_oW_cp (fun _ e => by cases e)
      replace q_oW_cp := qtr (Fr.of_or q125) q_oW_cp tq
      clear tq
      have tq := o40.size
      replace o40 := o40.tailr o124 q_o40_cp (fun _ e => by cases e)
      replace q_o40_cp := qtr (Fr.of_or q125) q_o40_cp tq
      clear tq
      refine wpL.flat (zs zf39 0 6 ++ [(z 6), (sli b34 0 3 3), (eN 2)] ++ (zs z 9 6 ++ (zs zf39 15 15 ++ [(eN 2), (Value.bool (decide (2 < 3))), (z 32), (z 33), (z 34), (sli b114 0 0 0), (sli b34 0 3 3), (eN 2), (ptr b34 2), u3, u120] ++ (zs z 41 41)))) (by kernel_rfl) ?_
      refine wpL.op rfl (d_call (xl := [.tmp 40]) (al := [u120]) Try.func29 (by kernel_rfl) rfl rfl rfl (bchDecode_ok lr u120 _ (Ps.no (a123.seq (X := No) (fun _ _ h => h))) (by first | omega | (simp; done) | (simp; omega)))) ?_
      rintro _ w126 ⟨u128, rfl, f129, o127⟩
      replace f129 := f129.less (Y := (Orq bo122 (Or1 b34 (Old W.heap.size)))) (orq_old (fun x hx => by subst hx; exact a123.lt) (or1_old a37.lt (old_old oW.size)))
      replace h1 := h1.step0 o127
      replace h2 := h2.step0 o127
      replace h3 := h3.step0 o127
      replace f17 := f17.step0 o127
      replace f21 := f21.step0 o127
      replace f25 := f25.step0 o127
      replace f29 := f29.step0 o127
      replace f33 := f33.step0 o127
      replace a37 := a37.step0 o127
      replace a123 := a123.step0 o127
      replace oW := oW.tail0 o127
      replace o40 := o40.tail0 o127
      refine wpL.is rfl (d_move rfl) ?_
      refine wpL.is rfl (d_extract (v := u128) rfl rfl) ?_
      refine wpL.flat (zs zf39 0 6 ++ [(z 6), (sli b34 0 3 3), (eN 2)] ++ (zs z 9 6 ++ (zs zf39 15 15 ++ [(eN 2), (Value.bool (decide (2 < 3))), (z 32), (z 33), (Value.tuple #[u128, (eN (decN lr)), (Value.bool (decB lr))]), (sli b114 0 0 0), (sli b34 0 3 3), (eN 2), (ptr b34 2), u3, u120, (Value.tuple #[u128, (eN (decN lr)), (Value.bool (decB lr))]), u128] ++ (zs z 43 39)))) (by kernel_rfl) ?_
      refine wpL.is rfl (d_extract (v := (eN (decN lr))) rfl rfl) ?_
      refine wpL.is rfl (d_extract (v := (Value.bool (decB lr))) rfl rfl) ?_
      refine wpL.is rfl (d_assign rfl) ?_
      refine wpL.flat (zs zf39 0 6 ++ [(z 6), (sli b34 0 3 3), (eN 2), u128] ++ (zs z 10 5 ++ (zs zf39 15 15 ++ [(eN 2), (Value.bool (decide (2 < 3))), (z 32), (z 33), (Value.tuple #[u128, (eN (decN lr)), (Value.bool (decB lr))]), (sli b114 0 0 0), (sli b34 0 3 3), (eN 2), (ptr b34 2), u3, u120, (Value.tuple #[u128, (eN (decN lr)), (Value.bool (decB lr))]), u128, (eN (decN lr)), (Value.bool (decB lr))] ++ (zs z 45 37)))) (by kernel_rfl) ?_
      refine wpL.is rfl (d_assign rfl) ?_
      refine wpL.is rfl (d_assign rfl) ?_
      refine wpL.flat (zs zf39 0 6 ++ [(z 6), (sli b34 0 3 3), (eN 2), u128, (eN (decN lr)), (Value.bool (decB lr)), (z 12), (z 13), (z 14)] ++ (zs zf39 15 15 ++ [(eN 2), (Value.bool (decide (2 < 3))), (z 32), (z 33), (Value.tuple #[u128, (eN (decN lr)), (Value.bool (decB lr))]), (sli b114 0 0 0), (sli b34 0 3 3), (eN 2), (ptr b34 2), u3, u120, (Value.tuple #[u128, (eN (decN lr)), (Value.bool (decB lr))]), u128, (eN (decN lr)), (Value.bool (decB lr))] ++ (zs z 45 37))) (by kernel_rfl) ?_
      refine wpL.done ?_
      refine then_n ?_
      refine forget (fun zf134 => (zs zf39 0 6 ++ [(zf134 6), (sli b34 0 3 3), (eN 2), u128, (eN (decN lr)), (Value.bool (decB lr)), (zf134 12), (zf134 13), (zf134 14)] ++ (zs zf39 15 15 ++ (zs zf134 30 39 ++ (zs z 69 12 ++ [(zf134 81)]))))) (by kernel_rfl) (fun zf134 => ?_)
      refine wpIn_seq ?_
      refine plain ?_
      refine wpL.is rfl (d_move rfl) ?_
      refine wpL.is rfl (d_move rfl) ?_
      refine wpL.is rfl (d_index1 (n := 3) (i := 2) Try.underlying43 s_ti22 rfl (show _ = Value.int _ ((2 : Nat) : Int) from rfl) (by omega)) ?_
      refine wpL.flat (zs zf39 0 6 ++ [(zf134 6), (sli b34 0 3 3), (eN 2), u128, (eN (decN lr)), (Value.bool (decB lr)), (zf134 12), (zf134 13), (zf134 14)] ++ (zs zf39 15 15 ++ (zs zf134 30 16 ++ [(sli b34 0 3 3), (eN 2), (ptr b34 2)] ++ (zs zf134 49 20 ++ (zs z 69 12 ++ [(zf134 81)]))))) (by kernel_rfl) ?_
      refine wpL.is rfl (d_load (v := u3) ⟨_, Try.underlying22, rfl⟩ rfl a37 rfl) ?_
      refine wpL.op rfl (d_call (xl := [.tmp 49]) (al := [u3]) Try.func30 (by kernel_rfl) rfl rfl rfl (ref4Decode_ok lr u3 _ (Ps.no h3) (by first | omega | (simp; done) | (simp; omega)))) ?_
      rintro _ w135 ⟨u137, rfl, f138, o136⟩
      replace f138 := f138.less (Y := (Orq bo122 (Or1 b34 (Old W.heap.size)))) (orq_old (fun x hx => by subst hx; exact a123.lt) (or1_old a37.lt (old_old oW.size)))
      replace h1 := h1.step0 o136
      replace h2 := h2.step0 o136
      replace h3 := h3.step0 o136
      replace f17 := f17.step0 o136
      replace f21 := f21.step0 o136
      replace f25 := f25.step0 o136
      replace f29 := f29.step0 o136
      replace f33 := f33.step0 o136
      replace f129 := f129.step0 o136
      replace a37 := a37.step0 o136
      replace a123 := a123.step0 o136
      replace oW := oW.tail0 o136
      replace o40 := o40.tail0 o136
      refine wpL.is rfl (d_move rfl) ?_
      refine wpL.flat (zs zf39 0 6 ++ [(zf134 6), (sli b34 0 3 3), (eN 2), u128, (eN (decN lr)), (Value.bool (decB lr)), (zf134 12), (zf134 13), (zf134 14)] ++ (zs zf39 15 15 ++ (zs zf134 30 15 ++ [(Value.tuple #[u137, (eN (decN lr)), (Value.bool (decB lr))]), (sli b34 0 3 3), (eN 2), (ptr b34 2), u3, (Value.tuple #[u137, (eN (decN lr)), (Value.bool (decB lr))])] ++ (zs zf134 51 18 ++ (zs z 69 12 ++ [(zf134 81)]))))) (by kernel_rfl) ?_
      refine wpL.is rfl (d_extract (v := u137) rfl rfl) ?_
      refine wpL.is rfl (d_extract (v := (eN (decN lr))) rfl rfl) ?_
      refine wpL.is rfl (d_extract (v := (Value.bool (decB lr))) rfl rfl) ?_
      refine wpL.flat (zs zf39 0 6 ++ [(zf134 6), (sli b34 0 3 3), (eN 2), u128, (eN (decN lr)), (Value.bool (decB lr)), (zf134 12), (zf134 13), (zf134 14)] ++ (zs zf39 15 15 ++ (zs zf134 30 15 ++ [(Value.tuple #[u137, (eN (decN lr)), (Value.bool (decB lr))]), (sli b34 0 3 3), (eN 2), (ptr b34 2), u3, (Value.tuple #[u137, (eN (decN lr)), (Value.bool (decB lr))]), u137, (eN (decN lr)), (Value.bool (decB lr))] ++ (zs zf134 54 15 ++ (zs z 69 12 ++ [(zf134 81)]))))) (by kernel_rfl) ?_
      refine wpL.is rfl (d_assign rfl) ?_
      refine wpL.is rfl (d_assign rfl) ?_
      refine wpL.is rfl (d_assign rfl) ?_
      refine wpL.flat (zs zf39 0 6 ++ [(zf134 6), (sli b34 0 3 3), (eN 2), u128, (eN (decN lr)), (Value.bool (decB lr)), u137, (eN (decN lr)), (Value.bool (decB lr))] ++ (zs zf39 15 15 ++ (zs zf134 30 15 ++ [(Value.tuple #[u137, (eN (decN lr)), (Value.bool (decB lr))]), (sli b34 0 3 3), (eN 2), (ptr b34 2), u3, (Value.tuple #[u137, (eN (decN lr)), (Value.bool (decB lr))]), u137, (eN (decN lr)), (Value.bool (decB lr))] ++ (zs zf134 54 15 ++ (zs z 69 12 ++ [(zf134 81)]))))) (by kernel_rfl) ?_
      refine wpL.done ?_
      refine then_n ?_
      refine forget (fun zf143 => (zs zf39 0 6 ++ [(zf143 6), (sli b34 0 3 3), (eN 2), u128, (eN (decN lr)), (Value.bool (decB lr)), u137, (eN (decN lr)), (Value.bool (decB lr))] ++ (zs zf39 15 15 ++ (zs zf143 30 39 ++ (zs z 69 12 ++ [(zf143 81)]))))) (by kernel_rfl) (fun zf143 => ?_)
      refine wpIn_seq ?_
      refine wpIn_seq ?_
      refine plain ?_
      refine wpL.is rfl (d_move rfl) ?_
      refine wpL.is rfl (d_str Try.underlying22 Try.underlying5 Try.underlying9 rfl f129) ?_
      refine wpL.is rfl (d_move rfl) ?_
      refine wpL.flat (zs zf39 0 6 ++ [(zf143 6), (sli b34 0 3 3), (eN 2), u128, (eN (decN lr)), (Value.bool (decB lr)), u137, (eN (decN lr)), (Value.bool (decB lr))] ++ (zs zf39 15 15 ++ (zs zf143 30 24 ++ [u128, (Value.string (strOf (decD lr))), u137] ++ (zs zf143 57 12 ++ (zs z 69 12 ++ [(zf143 81)]))))) (by kernel_rfl) ?_
      refine wpL.is rfl (d_str Try.underlying22 Try.underlying5 Try.underlying9 rfl f138) ?_
      refine wpL.is rfl (d_sneq (a := (decD lr)) (c := (decD lr)) rfl rfl (by rw [decide_eq_true rfl] <;> rfl)) ?_
      refine wpL.is rfl (d_move rfl) ?_
      refine wpL.flat (zs zf39 0 6 ++ [(zf143 6), (sli b34 0 3 3), (eN 2), u128, (eN (decN lr)), (Value.bool (decB lr)), u137, (eN (decN lr)), (Value.bool (decB lr))] ++ (zs zf39 15 15 ++ (zs zf143 30 24 ++ [u128, (Value.string (strOf (decD lr))), u137, (Value.string (strOf (decD lr))), (Value.bool false), (Value.bool false)] ++ (zs zf143 60 9 ++ (zs z 69 12 ++ [(zf143 81)]))))) (by kernel_rfl) ?_
      refine wpL.onis rfl rfl rfl (Nat.le_of_ble_eq_true rfl) rfl (d_move rfl) ?_
      refine wpL.onis rfl rfl rfl (Nat.le_of_ble_eq_true rfl) rfl (d_move rfl) ?_
      refine wpL.onis rfl rfl rfl (Nat.le_of_ble_eq_true rfl) rfl (n_neq (a := (decN lr)) (b := (decN lr)) rfl rfl (by rw [decide_eq_true rfl] <;> rfl)) ?_
      refine wpL.flat (zs zf39 0 6 ++ [(zf143 6), (sli b34 0 3 3), (eN 2), u128, (eN (decN lr)), (Value.bool (decB lr)), u137, (eN (decN lr)), (Value.bool (decB lr))] ++ (zs zf39 15 15 ++ (zs zf143 30 24 ++ [u128, (Value.string (strOf (decD lr))), u137, (Value.string (strOf (decD lr))), (Value.bool false), (Value.bool false), (eN (decN lr)), (eN (decN lr)), (Value.bool false)] ++ (zs zf143 63 6 ++ (zs z 69 12 ++ [(zf143 81)]))))) (by kernel_rfl) ?_
      refine wpL.is rfl (d_pick (b := false) (v := (Value.bool false)) rfl rfl) ?_
      refine wpL.is rfl (d_move rfl) ?_
      refine wpL.onis rfl rfl rfl (Nat.le_of_ble_eq_true rfl) rfl (d_move rfl) ?_
      refine wpL.flat (zs zf39 0 6 ++ [(zf143 6), (sli b34 0 3 3), (eN 2), u128, (eN (decN lr)), (Value.bool (decB lr)), u137, (eN (decN lr)), (Value.bool (decB lr))] ++ (zs zf39 15 15 ++ (zs zf143 30 24 ++ [u128, (Value.string (strOf (decD lr))), u137, (Value.string (strOf (decD lr))), (Value.bool false), (Value.bool false), (eN (decN lr)), (eN (decN lr)), (Value.bool false), (Value.bool false), (Value.bool false), (Value.bool (decB lr)), (zf143 66), (zf143 67), (zf143 68)] ++ (zs z 69 12 ++ [(zf143 81)])))) (by kernel_rfl) ?_
      refine wpL.onis rfl rfl rfl (Nat.le_of_ble_eq_true rfl) rfl (d_move rfl) ?_
      refine wpL.onis rfl rfl rfl (Nat.le_of_ble_eq_true rfl) rfl (d_bneq Try.underlying4 rfl rfl (bne_self_eq_false _)) ?_
      refine wpL.is rfl (d_pick (b := false) (v := (Value.bool false)) rfl rfl) ?_
      refine wpL.flat (zs zf39 0 6 ++ [(zf143 6), (sli b34 0 3 3), (eN 2), u128, (eN (decN lr)), (Value.bool (decB lr)), u137, (eN (decN lr)), (Value.bool (decB lr))] ++ (zs zf39 15 15 ++ (zs zf143 30 24 ++ [u128, (Value.string (strOf (decD lr))), u137, (Value.string (strOf (decD lr))), (Value.bool false), (Value.bool false), (eN (decN lr)), (eN (decN lr)), (Value.bool false), (Value.bool false), (Value.bool false), (Value.bool (decB lr)), (Value.bool (decB lr)), (Value.bool false), (Value.bool false)] ++ (zs z 69 12 ++ [(zf143 81)])))) (by kernel_rfl) ?_
      refine wpL.done ?_
      refine then_n ?_
      refine forget (fun zf144 => (zs zf39 0 6 ++ [(zf144 6), (sli b34 0 3 3), (eN 2), u128, (eN (decN lr)), (Value.bool (decB lr)), (zf144 12), (zf144 13), (zf144 14)] ++ (zs zf39 15 15 ++ (zs zf144 30 38 ++ [(Value.bool false)] ++ (zs z 69 12 ++ [(zf144 81)]))))) (by kernel_rfl) (fun zf144 => ?_)
      refine cond_f rfl ?_
      refine wpIn_skip ?_
      refine then_n ?_
      refine wpIn_seq ?_
      by_cases d0 : decB lr = true
      ·
       refine wp_eq (l' := (zs zf39 0 6 ++ [(zf144 6), (sli b34 0 3 3), (eN 2), u128, (eN (decN lr)), (Value.bool true), (zf144 12), (zf144 13), (zf144 14)] ++ (zs zf39 15 15 ++ (zs zf144 30 38 ++ [(Value.bool false)] ++ (zs z 69 12 ++ [(zf144 81)]))))) (show ((zs zf39 0 6 ++ [(zf144 6), (sli b34 0 3 3), (eN 2), u128, (eN (decN lr)), (Value.bool (decB lr)), (zf144 12), (zf144 13), (zf144 14)] ++ (zs zf39 15 15 ++ (zs zf144 30 38 ++ [(Value.bool false)] ++ (zs z 69 12 ++ [(zf144 81)])))) : List Value) = (zs zf39 0 6 ++ [(zf144 6), (sli b34 0 3 3), (eN 2), u128, (eN (decN lr)), (Value.bool true), (zf144 12), (zf144 13), (zf144 14)] ++ (zs zf39 15 15 ++ (zs zf144 30 38 ++ [(Value.bool false)] ++ (zs z 69 12 ++ [(zf144 81)])))) from reslot (zs zf39 0 6 ++ [(zf144 6), (sli b34 0 3 3), (eN 2), u128, (eN (decN lr)), (Value.bool (decB lr)), (zf144 12), (zf144 13), (zf144 14)] ++ (zs zf39 15 15 ++ (zs zf144 30 38 ++ [(Value.bool false)] ++ (zs z 69 12 ++ [(zf144 81)])))) 11 (congrArg Value.bool d0)) ?_
       refine drawn' (O := (Orq bo122 (Or1 b34 No))) (n := 13) [0, 1, 3, 7, 3, 3, 51, 115, 255, 511, 3, 2047, 4095] [(0, 69), (1, 70), (2, 71), (3, 72), (4, 73), (5, 74), (6, 75), (7, 76), (8, 77), (9, 78), (10, 79), (11, 80), (12, 81)] [0, 1, 2, 3, 4, 5, 6, 7, 8, 9, 10, 11, 12] [] (fun i_ => ([RF.is (Orq bo122 (Or1 b34 No)) (Value.bool true), RF.is (Orq bo122 (Or1 b34 No)) (Value.bool true), RF.is (Orq bo122 (Or1 b34 No)) u128, RF.ps (Orq bo122 (Or1 b34 No)) (Orq bo122 (Or1 b34 (Old W.heap.size))) (Seq kB (encR (decD lr))) (orq_mono (or1_mono no_any)), RF.is (Orq bo122 (Or1 b34 No)) (sli b34 0 3 3), RF.is (Orq bo122 (Or1 b34 No)) (eN 2), RF.is (Orq bo122 (Or1 b34 No)) (ptr b34 2), RF.is (Orq bo122 (Or1 b34 No)) u3, RF.ps (Orq bo122 (Or1 b34 No)) (Orq bo122 (Or1 b34 (Old W.heap.size))) (Seq kN (apR (encR (decD lr)) lr)) (orq_mono (or1_mono no_any)), RF.is (Orq bo122 (Or1 b34 No)) (eN ((apR (encR (decD lr)) lr).length)), RF.is (Orq bo122 (Or1 b34 No)) (eN (decN lr)), RF.is (Orq bo122 (Or1 b34 No)) (Value.bool false), RF.is (Orq bo122 (Or1 b34 No)) (Value.bool false)] : List (RF (Orq bo122 (Or1 b34 No)))).getD i_ (RF.any (Orq bo122 (Or1 b34 No)))) (fun _ w_ => Arr 22 b34 [u28, u32, u3] w_ ∧ Ow 5 1 bo122 u120 (lr).length ((lr).map eB) w_) (fun v145 => (zs zf39 0 6 ++ [(zf144 6), (sli b34 0 3 3), (eN 2), u128, (eN (decN lr)), (Value.bool true), (zf144 12), (zf144 13), (zf144 14)] ++ (zs zf39 15 15 ++ (zs zf144 30 38 ++ [(Value.bool false), (v145 0), (v145 1), (v145 2), (v145 3), (v145 4), (v145 5), (v145 6), (v145 7), (v145 8), (v145 9), (v145 10), (v145 11), (v145 12)])))) s_mx (by kernel_rfl) rfl (by kernel_rfl) (by rfl) (fun v_ => by kernel_rfl) (fun _ => fun w_ w2_ h ho => by obtain ⟨r_a37, r_a123⟩ := h; exact ⟨r_a37.step0 ho, r_a123.step0 ho⟩) ⟨a37, a123⟩ ?_ ?_ ?_
       ·
        refine ls_cons ?_ ?_
        ·
         intro v145 lo hi w_ k_ hO hd _ _ hk_ _ hR hold
         obtain ⟨r_a37, r_a123⟩ := hR
         clear hd hold
         refine ⟨_, rfl, gd rfl ?_⟩
         exact Does.is (d_move rfl)
        refine ls_cons ?_ ?_
        ·
         intro v145 lo hi w_ k_ hO hd _ _ hk_ _ hR hold
         obtain ⟨r_a37, r_a123⟩ := hR
         have e0 : v145 0 = (Value.bool true) := hd 0 (by kernel_rfl)
         clear hd hold
         refine ⟨_, rfl, gd rfl ?_⟩
         exact Does.is (d_move (v := (Value.bool true)) e0)
        refine ls_cons ?_ ?_
        ·
         intro v145 lo hi w_ k_ hO hd _ _ hk_ _ hR hold
         obtain ⟨r_a37, r_a123⟩ := hR
         have e1 : v145 1 = (Value.bool true) := hd 1 (by kernel_rfl)
         clear hd hold
         refine ⟨_, rfl, gd_on rfl rfl rfl (Nat.le_of_ble_eq_true rfl) e1 ?_⟩
         exact Does.is (d_move rfl)
        refine ls_cons ?_ ?_
        ·
         intro v145 lo hi w_ k_ hO hd _ _ hk_ _ hR hold
         obtain ⟨r_a37, r_a123⟩ := hR
         have e1 : v145 1 = (Value.bool true) := hd 1 (by kernel_rfl)
         have e2 : v145 2 = u128 := hd 2 (by kernel_rfl)
         clear hd hold
         refine ⟨_, rfl, gd_on rfl rfl rfl (Nat.le_of_ble_eq_true rfl) e1 ?_⟩
         refine Does.mono (R := ROw 5 eB (encR (decD lr)) w_) ?_ (fun u w' h => ⟨(h.ps).1.less (orq_old (fun x hx => by subst hx; exact r_a123.lt) (or1_old r_a37.lt (old_old (Nat.le_trans oW.size hO.size)))), (h.ps).2⟩)
         exact d_call (xl := [.tmp 71]) (al := [u128]) Try.func15 (by kernel_rfl) rfl (show ([(v145 2)] : List Value) = [u128] from by rw [e2]) rfl (bchEncode_ok (decD lr) u128 _ (Ps.no (f129.step hO (orq_mono (or1_mono no_any)))) (by have := decD_len lr; first | omega | (simp; done) | (simp; omega)))
        refine ls_cons ?_ ?_
        ·
         intro v145 lo hi w_ k_ hO hd _ _ hk_ _ hR hold
         obtain ⟨r_a37, r_a123⟩ := hR
         have e1 : v145 1 = (Value.bool true) := hd 1 (by kernel_rfl)
         clear hd hold
         refine ⟨_, rfl, gd_on rfl rfl rfl (Nat.le_of_ble_eq_true rfl) e1 ?_⟩
         exact Does.is (d_move rfl)
        refine ls_cons ?_ ?_
        ·
         intro v145 lo hi w_ k_ hO hd _ _ hk_ _ hR hold
         obtain ⟨r_a37, r_a123⟩ := hR
         have e1 : v145 1 = (Value.bool true) := hd 1 (by kernel_rfl)
         clear hd hold
         refine ⟨_, rfl, gd_on rfl rfl rfl (Nat.le_of_ble_eq_true rfl) e1 ?_⟩
         exact Does.is (d_move rfl)
        refine ls_cons ?_ ?_
        ·
         intro v145 lo hi w_ k_ hO hd _ _ hk_ _ hR hold
         obtain ⟨r_a37, r_a123⟩ := hR
         have e1 : v145 1 = (Value.bool true) := hd 1 (by kernel_rfl)
         have e4 : v145 4 = (sli b34 0 3 3) := hd 4 (by kernel_rfl)
         have e5 : v145 5 = (eN 2) := hd 5 (by kernel_rfl)
         clear hd hold
         refine ⟨_, rfl, gd_on rfl rfl rfl (Nat.le_of_ble_eq_true rfl) e1 ?_⟩
         exact Does.is (d_index1 (n := 3) (i := 2) Try.underlying43 s_ti22 e4 (show _ = Value.int _ ((2 : Nat) : Int) from e5) (by omega))
        refine ls_cons ?_ ?_
        ·
         intro v145 lo hi w_ k_ hO hd _ _ hk_ _ hR hold
         obtain ⟨r_a37, r_a123⟩ := hR
         have e1 : v145 1 = (Value.bool true) := hd 1 (by kernel_rfl)
         have e6 : v145 6 = (ptr b34 2) := hd 6 (by kernel_rfl)
         clear hd hold
         refine ⟨_, rfl, gd_on rfl rfl rfl (Nat.le_of_ble_eq_true rfl) e1 ?_⟩
         exact Does.is (d_load (v := u3) ⟨_, Try.underlying22, rfl⟩ e6 r_a37 rfl)
        refine ls_cons ?_ ?_
        ·
         intro v145 lo hi w_ k_ hO hd _ _ hk_ _ hR hold
         obtain ⟨r_a37, r_a123⟩ := hR
         have e1 : v145 1 = (Value.bool true) := hd 1 (by kernel_rfl)
         have d3 : Ps (Orq bo122 (Or1 b34 (Old W.heap.size))) (Seq kB (encR (decD lr)) (v145 3)) w_ := hd 3 (by kernel_rfl)
         have e7 : v145 7 = u3 := hd 7 (by kernel_rfl)
         clear hd hold
         refine ⟨_, rfl, gd_on rfl rfl rfl (Nat.le_of_ble_eq_true rfl) e1 ?_⟩
         refine Does.mono (R := ROw 3 eN (apR (encR (decD lr)) lr) w_) ?_ (fun u w' h => ⟨(h.ps).1.less (orq_old (fun x hx => by subst hx; exact r_a123.lt) (or1_old r_a37.lt (old_old (Nat.le_trans oW.size hO.size)))), (h.ps).2⟩)
         exact d_call (xl := [.tmp 72, .tmp 76]) (al := [(v145 3), u3]) Try.func16 (by kernel_rfl) rfl (show ([(v145 3), (v145 7)] : List Value) = [(v145 3), u3] from by rw [e7]) rfl (ref6Apart_ok (encR (decD lr)) lr (v145 3) u3 _ (Ps.no d3) (Ps.no (h3.step hO (orq_mono (or1_mono no_any)))) (by have := decD_len lr; have := encR_len (decD lr); first | omega | (simp; done) | (simp; omega)) (by first | omega | (simp; done) | (simp; omega)))
        refine ls_cons ?_ ?_
        ·
         intro v145 lo hi w_ k_ hO hd _ _ hk_ _ hR hold
         obtain ⟨r_a37, r_a123⟩ := hR
         have e1 : v145 1 = (Value.bool true) := hd 1 (by kernel_rfl)
         have d8 : Ps (Orq bo122 (Or1 b34 (Old W.heap.size))) (Seq kN (apR (encR (decD lr)) lr) (v145 8)) w_ := hd 8 (by kernel_rfl)
         clear hd hold
         refine ⟨_, rfl, gd_on rfl rfl rfl (Nat.le_of_ble_eq_true rfl) e1 ?_⟩
         exact Does.is (d_lenS rfl Try.underlying26 rfl d8)
        refine ls_cons ?_ ?_
        ·
         intro v145 lo hi w_ k_ hO hd _ _ hk_ _ hR hold
         obtain ⟨r_a37, r_a123⟩ := hR
         have e1 : v145 1 = (Value.bool true) := hd 1 (by kernel_rfl)
         clear hd hold
         refine ⟨_, rfl, gd_on rfl rfl rfl (Nat.le_of_ble_eq_true rfl) e1 ?_⟩
         exact Does.is (d_move rfl)
        refine ls_cons ?_ ?_
        ·
         intro v145 lo hi w_ k_ hO hd _ _ hk_ _ hR hold
         obtain ⟨r_a37, r_a123⟩ := hR
         have e1 : v145 1 = (Value.bool true) := hd 1 (by kernel_rfl)
         have e10 : v145 10 = (eN (decN lr)) := hd 10 (by kernel_rfl)
         have e9 : v145 9 = (eN ((apR (encR (decD lr)) lr).length)) := hd 9 (by kernel_rfl)
         clear hd hold
         refine ⟨_, rfl, gd_on rfl rfl rfl (Nat.le_of_ble_eq_true rfl) e1 ?_⟩
         exact Does.is (n_neq (a := ((apR (encR (decD lr)) lr).length)) (b := (decN lr)) e9 e10 (by rw [decide_eq_true (dec_apart d0)] <;> rfl))
        refine ls_cons ?_ ?_
        ·
         intro v145 lo hi w_ k_ hO hd _ _ hk_ _ hR hold
         obtain ⟨r_a37, r_a123⟩ := hR
         have e1 : v145 1 = (Value.bool true) := hd 1 (by kernel_rfl)
         have e11 : v145 11 = (Value.bool false) := hd 11 (by kernel_rfl)
         clear hd hold
         refine ⟨_, rfl, gd rfl ?_⟩
         exact Does.is (d_pick (b := true) (v := (Value.bool false)) e1 e11)
        exact ls_nil
       ·
        exact ms_nil
       intro v145 lo_ hi_ w146 o147 hd iv_ hR
       have e0 : v145 0 = (Value.bool true) := hd 0 (by decide)
       have e1 : v145 1 = (Value.bool true) := hd 1 (by decide)
       have e2 : v145 2 = u128 := hd 2 (by decide)
       have e4 : v145 4 = (sli b34 0 3 3) := hd 4 (by decide)
       have e5 : v145 5 = (eN 2) := hd 5 (by decide)
       have e6 : v145 6 = (ptr b34 2) := hd 6 (by decide)
       have e7 : v145 7 = u3 := hd 7 (by decide)
       have e9 : v145 9 = (eN ((apR (encR (decD lr)) lr).length)) := hd 9 (by decide)
       have e10 : v145 10 = (eN (decN lr)) := hd 10 (by decide)
       have e11 : v145 11 = (Value.bool false) := hd 11 (by decide)
       have e12 : v145 12 = (Value.bool false) := hd 12 (by decide)
       have f_v145_3 : Ps (Orq bo122 (Or1 b34 (Old W.heap.size))) (Seq kB (encR (decD lr)) (v145 3)) w146 := hd 3 (by decide)
       have f_v145_8 : Ps (Orq bo122 (Or1 b34 (Old W.heap.size))) (Seq kN (apR (encR (decD lr)) lr) (v145 8)) w146 := hd 8 (by decide)
       clear hd iv_ lo_ hi_
       refine fr_eq (l' := (zs zf39 0 6 ++ [(zf144 6), (sli b34 0 3 3), (eN 2), u128, (eN (decN lr)), (Value.bool true), (zf144 12), (zf144 13), (zf144 14)] ++ (zs zf39 15 15 ++ (zs zf144 30 38 ++ [(Value.bool false), (Value.bool true), (Value.bool true), u128, (v145 3), (sli b34 0 3 3), (eN 2), (ptr b34 2), u3, (v145 8), (eN ((apR (encR (decD lr)) lr).length)), (eN (decN lr)), (Value.bool false), (Value.bool false)])))) (by rw [e0, e1, e2, e4, e5, e6, e7, e9, e10, e11, e12] <;> rfl) ?_
       clear e0 e1 e2 e4 e5 e6 e7 e9 e10 e11 e12
       replace h1 := h1.step o147 (orq_mono (or1_mono no_any))
       replace h2 := h2.step o147 (orq_mono (or1_mono no_any))
       replace h3 := h3.step o147 (orq_mono (or1_mono no_any))
       replace f17 := f17.step o147 (orq_mono (or1_mono no_any))
       replace f21 := f21.step o147 (orq_mono (or1_mono no_any))
       replace f25 := f25.step o147 (orq_mono (or1_mono no_any))
       replace f29 := f29.step o147 (orq_mono (or1_mono no_any))
       replace f33 := f33.step o147 (orq_mono (or1_mono no_any))
       replace f129 := f129.step o147 (orq_mono (or1_mono no_any))
       replace f138 := f138.step o147 (orq_mono (or1_mono no_any))
       obtain ⟨xr_a37, xr_a123⟩ := hR
       replace a37 : Arr 22 b34 [u28, u32, u3] w146 := xr_a37
       replace a123 : Ow 5 1 bo122 u120 (lr).length ((lr).map eB) w146 := xr_a123
       clear xr_a37 xr_a123
       replace oW := oW.tail o147 (tl_q q_oW_cp (fun _ e => by cases e) (tl_new g_oW_b34 tl_no))
       replace o40 := o40.tail o147 (tl_q q_o40_cp (fun _ e => by cases e) (tl_in in1 tl_no))
       refine then_n ?_
       refine cond_f rfl ?_
       refine wpIn_skip ?_
       refine inb_n (then_n ?_)
       refine plain ?_
       refine wpL.is rfl (d_move rfl) ?_
       refine wpL.is rfl (n_add (a := 2) (b := 1) rfl rfl (by omega)) ?_
       refine wpL.is rfl (d_assign rfl) ?_
       refine wpL.flat (zs zf39 0 6 ++ [(zf144 6), (sli b34 0 3 3), (eN 3), u128, (eN (decN lr)), (Value.bool true), (zf144 12), (zf144 13), (zf144 14)] ++ (zs zf39 15 15 ++ [(zf144 30), (zf144 31), (eN 2), (eN 3)] ++ (zs zf144 34 34 ++ [(Value.bool false), (Value.bool true), (Value.bool true), u128, (v145 3), (sli b34 0 3 3), (eN 2), (ptr b34 2), u3, (v145 8), (eN ((apR (encR (decD lr)) lr).length)), (eN (decN lr)), (Value.bool false), (Value.bool false)]))) (by kernel_rfl) ?_
       refine wpL.done ?_
       refine then_n ?_
       refine ⟨_, 3, rfl, rfl, ⟨?_, ?_, ?_⟩, ?_⟩
       ·
        (try dsimp only)
        all_goals (omega)
       ·
        (try dsimp only)
        all_goals (exact o40)
       ·
        (try dsimp only)
        all_goals (exact a37)
       ·
        (try dsimp only)
        all_goals (omega)
      ·
       refine wp_eq (l' := (zs zf39 0 6 ++ [(zf144 6), (sli b34 0 3 3), (eN 2), u128, (eN (decN lr)), (Value.bool false), (zf144 12), (zf144 13), (zf144 14)] ++ (zs zf39 15 15 ++ (zs zf144 30 38 ++ [(Value.bool false)] ++ (zs z 69 12 ++ [(zf144 81)]))))) (show ((zs zf39 0 6 ++ [(zf144 6), (sli b34 0 3 3), (eN 2), u128, (eN (decN lr)), (Value.bool (decB lr)), (zf144 12), (zf144 13), (zf144 14)] ++ (zs zf39 15 15 ++ (zs zf144 30 38 ++ [(Value.bool false)] ++ (zs z 69 12 ++ [(zf144 81)])))) : List Value) = (zs zf39 0 6 ++ [(zf144 6), (sli b34 0 3 3), (eN 2), u128, (eN (decN lr)), (Value.bool false), (zf144 12), (zf144 13), (zf144 14)] ++ (zs zf39 15 15 ++ (zs zf144 30 38 ++ [(Value.bool false)] ++ (zs z 69 12 ++ [(zf144 81)])))) from reslot (zs zf39 0 6 ++ [(zf144 6), (sli b34 0 3 3), (eN 2), u128, (eN (decN lr)), (Value.bool (decB lr)), (zf144 12), (zf144 13), (zf144 14)] ++ (zs zf39 15 15 ++ (zs zf144 30 38 ++ [(Value.bool false)] ++ (zs z 69 12 ++ [(zf144 81)])))) 11 (congrArg Value.bool (Bool.eq_false_iff.2 d0))) ?_
       refine drawn_pure [0, 1, 3, 7, 3, 3, 51, 115, 255, 511, 3, 2047, 4095] [(0, 69), (1, 70), (2, 71), (3, 72), (4, 73), (5, 74), (6, 75), (7, 76), (8, 77), (9, 78), (10, 79), (11, 80), (12, 81)] [(Value.bool false), (Value.bool false), undef, undef, undef, undef, undef, undef, undef, undef, undef, undef, (Value.bool false)] (zs zf39 0 6 ++ [(zf144 6), (sli b34 0 3 3), (eN 2), u128, (eN (decN lr)), (Value.bool false), (zf144 12), (zf144 13), (zf144 14)] ++ (zs zf39 15 15 ++ (zs zf144 30 38 ++ [(Value.bool false), (Value.bool false), (Value.bool false)] ++ (us 10 ++ [(Value.bool false)])))) s_mx (by kernel_rfl) (by kernel_rfl) rfl (by kernel_rfl) (by kernel_rfl) ?_ ?_
       ·
        intro w_ hO_
        refine AllG.cons (gi rfl (d_move rfl)) ?_
        refine AllG.cons (gi rfl (d_move rfl)) ?_
        refine AllG.cons (gf rfl rfl rfl (Nat.le_of_ble_eq_true rfl) rfl) ?_
        refine AllG.cons (gf rfl rfl rfl (Nat.le_of_ble_eq_true rfl) rfl) ?_
        refine AllG.cons (gf rfl rfl rfl (Nat.le_of_ble_eq_true rfl) rfl) ?_
        refine AllG.cons (gf rfl rfl rfl (Nat.le_of_ble_eq_true rfl) rfl) ?_
        refine AllG.cons (gf rfl rfl rfl (Nat.le_of_ble_eq_true rfl) rfl) ?_
        refine AllG.cons (gf rfl rfl rfl (Nat.le_of_ble_eq_true rfl) rfl) ?_
        refine AllG.cons (gf rfl rfl rfl (Nat.le_of_ble_eq_true rfl) rfl) ?_
        refine AllG.cons (gf rfl rfl rfl (Nat.le_of_ble_eq_true rfl) rfl) ?_
        refine AllG.cons (gf rfl rfl rfl (Nat.le_of_ble_eq_true rfl) rfl) ?_
        refine AllG.cons (gf rfl rfl rfl (Nat.le_of_ble_eq_true rfl) rfl) ?_
        refine AllG.cons (gi rfl (d_pick (b := false) (v := (Value.bool false)) rfl rfl)) ?_
        exact AllG.nil
       intro w148 o149
       replace h1 := h1.step0 o149
       replace h2 := h2.step0 o149
       replace h3 := h3.step0 o149
       replace f17 := f17.step0 o149
       replace f21 := f21.step0 o149
       replace f25 := f25.step0 o149
       replace f29 := f29.step0 o149
       replace f33 := f33.step0 o149
       replace f129 := f129.step0 o149
       replace f138 := f138.step0 o149
       replace a37 := a37.step0 o149
       replace a123 := a123.step0 o149
       replace oW := oW.tail0 o149
       replace o40 := o40.tail0 o149
       refine then_n ?_
       refine cond_f rfl ?_
       refine wpIn_skip ?_
       refine inb_n (then_n ?_)
       refine plain ?_
       refine wpL.is rfl (d_move rfl) ?_
       refine wpL.is rfl (n_add (a := 2) (b := 1) rfl rfl (by omega)) ?_
       refine wpL.is rfl (d_assign rfl) ?_
       refine wpL.flat (zs zf39 0 6 ++ [(zf144 6), (sli b34 0 3 3), (eN 3), u128, (eN (decN lr)), (Value.bool false), (zf144 12), (zf144 13), (zf144 14)] ++ (zs zf39 15 15 ++ [(zf144 30), (zf144 31), (eN 2), (eN 3)] ++ (zs zf144 34 34 ++ [(Value.bool false), (Value.bool false), (Value.bool false)] ++ (us 10 ++ [(Value.bool false)])))) (by kernel_rfl) ?_
       refine wpL.done ?_
       refine then_n ?_
       refine ⟨_, 3, rfl, rfl, ⟨?_, ?_, ?_⟩, ?_⟩
       ·
        (try dsimp only)
        all_goals (omega)
       ·
        (try dsimp only)
        all_goals (exact o40)
       ·
        (try dsimp only)
        all_goals (exact a37)
       ·
        (try dsimp only)
        all_goals (omega)
   ·
    refine wpIn_exit ?_
    refine then_x (then_x (inb_e ?_))
    refine then_n ?_
    refine wpIn_seq ?_
    refine plain ?_
    refine wpL.is rfl (d_assign rfl) ?_
    refine wpL.flat (zs zf39 0 6 ++ [(Value.bool true), (sli b34 0 3 3), (eN i)] ++ (zs z 9 6 ++ (zs zf39 15 15 ++ [(eN i), (Value.bool (decide (i < 3)))] ++ (zs z 32 50)))) (by kernel_rfl) ?_
    refine wpL.done ?_
    refine then_n ?_
    refine wpIn_ret ?_
    refine leave0 (v := (Value.bool true)) (res1 Try.results9 rfl) ?_
    exact ⟨rfl, oW⟩

end Go.Proofs.YtkppgdbpadaegaaF
