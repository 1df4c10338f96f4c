import Derived.Test.YtgalehapmdabeaaFz
import Derived.Test.YtgalehapmdabeaaTy
import Derived.Test.YtgalehapmdabeaaHpgu
set_option linter.unusedVariables false
set_option linter.unusedSimpArgs false
namespace Go.Proofs.YtgalehapmdabeaaF
open Go Go.Shelf Go.Proofs.YtgalehapmdabeaaS Ram
set_option maxRecDepth 20000 in
set_option maxHeartbeats 4000000 in
theorem pageWrites_law (la : List UInt8) (ll : List Int) (lr : List UInt8) (u1 : Value) (u2 : Value) (u3 : Value) (W : World) (h1 : Ps No (Seq kB la u1) W) (h2 : Ps No (Seq kI ll u2) W) (h3 : Ps No (Seq kB lr u3) W) (g1 : la.length ≤ 140737488351232) (g2 : ll.length ≤ 17592186043904) (g3 : lr.length ≤ 140737488351232) :
    CW Try.prog 3 #[u1, u2, u3] W (Rt (RIs (.bool true) W)) := by
 have oW : Only No W W := Only.refl _ _
 refine enter (al := [u1, u2, u3]) (k := 60) (l := ([u1, u2, u3] ++ (us 60))) Try.func3 rfl Try.ntmps3 rfl rfl ?_
 refine wpIn_seq ?_
 refine plain ?_
 refine wI (d_assign rfl) ?_
 refine wF ([u1, u2, u3, undef, undef, undef, (Value.bool false)] ++ (us 56)) ?_
 refine wpL.done ?_
 refine then_n ?_
 refine wpIn_seq ?_
 refine wpIn_seq ?_
 refine plain ?_
 refine wO (d_call (xl := []) (al := []) Try.func14 (by kernel_rfl) rfl rfl rfl (l8known_ok _)) ?_
 rintro _ w11 ⟨rfl, o12⟩
 replace h1 := h1.step0 o12
 replace h2 := h2.step0 o12
 replace h3 := h3.step0 o12
 replace oW := oW.tail0 o12
 refine wI (d_not rfl rfl) ?_
 refine wF ([u1, u2, u3, undef, undef, undef, (Value.bool false), undef, undef, undef, undef, (Value.bool true), (Value.bool false)] ++ (us 50)) ?_
 refine wpL.done ?_
 refine then_n ?_
 refine cond_f rfl ?_
 refine wpIn_skip ?_
 refine then_n ?_
 refine wpIn_seq ?_
 refine wpIn_seq ?_
 refine plain ?_
 refine wI (d_move rfl) ?_
 refine wI (d_lenS rfl Try.underlying22 rfl h3) ?_
 refine wI (n_gtr (a := lr.length) (b := 80) rfl rfl rfl) ?_
 refine wF ([u1, u2, u3, undef, undef, undef, (Value.bool false), undef, undef, undef, undef, (Value.bool true), (Value.bool false), u3, (eN lr.length), (Value.bool (decide (80 < lr.length)))] ++ (us 47)) ?_
 refine wpL.done ?_
 refine then_n ?_
 refine cond_if rfl (fun c0 => ?_) (fun c0 => ?_)
 ·
  refine wpIn_seq ?_
  refine plain ?_
  refine wI (d_assign rfl) ?_
  refine wF ([u1, u2, u3, undef, undef, undef, (Value.bool true), undef, undef, undef, undef, (Value.bool true), (Value.bool false), u3, (eN lr.length), (Value.bool (decide (80 < lr.length)))] ++ (us 47)) ?_
  refine wpL.done ?_
  refine then_n ?_
  refine forget (fun zf13 => (zs zf13 0 6 ++ [(Value.bool true), (zf13 7), (zf13 8), (zf13 9), undef] ++ (zs zf13 11 52))) (by kernel_rfl) (fun zf13 => ?_)
  refine wpIn_ret ?_
  refine then_r ?_
  refine leave0 (v := (Value.bool true)) (res1 Try.results3 rfl) ?_
  exact ⟨rfl, oW⟩
 refine wpIn_skip ?_
 refine then_n ?_
 refine wpIn_seq ?_
 refine plain ?_
 refine wI (d_move rfl) ?_
 refine wO (d_call (xl := [.tmp 16, .const (.int .i64 48)]) (al := [u1, (eN 48)]) Try.func15 (by kernel_rfl) rfl rfl rfl (l4Data_ok la 48 u1 _ (Ps.no h1) (by omega))) ?_
 rintro u16 w14 f17
 replace f17 := f17.ps
 obtain ⟨f17, o15⟩ := f17
 replace f17 := f17.less (Y := (Old W.heap.size)) (old_old oW.size)
 replace h1 := h1.step0 o15
 replace h2 := h2.step0 o15
 replace h3 := h3.step0 o15
 replace oW := oW.tail0 o15
 refine wI (d_assign rfl) ?_
 refine wF ([u1, u2, u3, undef, undef, undef, (Value.bool false), u16, undef, undef, undef, (Value.bool true), (Value.bool false), u3, (eN lr.length), (Value.bool (decide (80 < lr.length))), u1, u16] ++ (us 45)) ?_
 refine wpL.done ?_
 refine then_n ?_
 refine forget (fun zf18 => ([(zf18 0), u2, u3, (zf18 3), (zf18 4), (zf18 5), (zf18 6), u16, (zf18 8), (zf18 9), undef] ++ (zs zf18 11 23 ++ (us 13 ++ [(zf18 47)] ++ (us 15))))) (by kernel_rfl) (fun zf18 => ?_)
 refine wpIn_seq ?_
 refine plain ?_
 refine wI (d_move rfl) ?_
 refine wO (d_call (xl := [.tmp 18]) (al := [u16]) Try.func16 (by kernel_rfl) rfl rfl rfl (pageEncode_ok (dataL la 48) u16 _ (Ps.no f17) (by have := dataL_length la 48; first | omega | (simp; done) | (simp; omega)))) ?_
 rintro u21 w19 f22
 replace f22 := f22.ps
 obtain ⟨f22, o20⟩ := f22
 replace f22 := f22.less (Y := (Old W.heap.size)) (old_old oW.size)
 replace h1 := h1.step0 o20
 replace h2 := h2.step0 o20
 replace h3 := h3.step0 o20
 replace f17 := f17.step0 o20
 replace oW := oW.tail0 o20
 refine wI (d_assign rfl) ?_
 refine wF ([(zf18 0), u2, u3, (zf18 3), (zf18 4), (zf18 5), (zf18 6), u16, u21, (zf18 9), undef] ++ (zs zf18 11 7 ++ [u16, u21] ++ (zs zf18 20 14 ++ (us 13 ++ [(zf18 47)] ++ (us 15))))) ?_
 refine wpL.done ?_
 have hw_ := pgE_length (dataL_length la 48)
 have hd_ := (dataL_length la 48)
 have hv_ : (flipL (pgE (dataL la 48)) (placesL ll 480 12)).length = 60 := by rw [flipL_length]; exact hw_
 have hr_ := dataL_length lr 60
 refine then_n ?_
 refine wpIn_seq ?_
 refine plain ?_
 refine wI (d_move rfl) ?_
 refine wI (d_move rfl) ?_
 refine wO (d_call (xl := [.tmp 21]) (al := [u16]) Try.func18 (by kernel_rfl) rfl rfl rfl (ref8Encode_ok (dataL la 48) u16 _ (Ps.no f17) (by have := dataL_length la 48; first | omega | (simp; done) | (simp; omega)))) ?_
 rintro u25 w23 f26
 replace f26 := f26.ps
 obtain ⟨f26, o24⟩ := f26
 replace f26 := f26.less (Y := (Old W.heap.size)) (old_old oW.size)
 replace h1 := h1.step0 o24
 replace h2 := h2.step0 o24
 replace h3 := h3.step0 o24
 replace f17 := f17.step0 o24
 replace f22 := f22.step0 o24
 replace oW := oW.tail0 o24
 refine wF ([(zf18 0), u2, u3, (zf18 3), (zf18 4), (zf18 5), (zf18 6), u16, u21, (zf18 9), undef] ++ (zs zf18 11 7 ++ [u16, u21, u21, u16, u25] ++ (zs zf18 23 11 ++ (us 13 ++ [(zf18 47)] ++ (us 15))))) ?_
 refine wI (d_move rfl) ?_
 refine wO (d_call (xl := [.tmp 23, .const (.int .i64 480), .const (.int .i64 12)]) (al := [u2, (eN 480), (eN 12)]) Try.func19 (by kernel_rfl) rfl rfl rfl (l4Places_ok ll 480 12 u2 _ (Ps.no h2) (by omega) (by omega) (by omega) (by omega))) ?_
 rintro u29 w27 f30
 replace f30 := f30.ps
 obtain ⟨f30, o28⟩ := f30
 replace f30 := f30.less (Y := (Old W.heap.size)) (old_old oW.size)
 replace h1 := h1.step0 o28
 replace h2 := h2.step0 o28
 replace h3 := h3.step0 o28
 replace f17 := f17.step0 o28
 replace f22 := f22.step0 o28
 replace f26 := f26.step0 o28
 replace oW := oW.tail0 o28
 refine wO (d_call (xl := [.tmp 22, .tmp 24]) (al := [u25, u29]) Try.func17 (by kernel_rfl) rfl rfl rfl (ref6Flip_ok (pgE (dataL la 48)) (placesL ll 480 12) u25 u29 _ (Ps.no f26) (Ps.no f30) (by have := dataL_length la 48; have := pgE_len (dataL la 48); first | omega | (simp; done) | (simp; omega)) (by have := places_le ll 480 12; first | omega | (simp; done) | (simp; omega)) (pg_flip_in (dataL_length la 48) (fun k hk => places_in ll 12 (show 0 < 480 by decide) k hk)))) ?_
 rintro u33 w31 f34
 replace f34 := f34.ps
 obtain ⟨f34, o32⟩ := f34
 replace f34 := f34.less (Y := (Old W.heap.size)) (old_old oW.size)
 replace h1 := h1.step0 o32
 replace h2 := h2.step0 o32
 replace h3 := h3.step0 o32
 replace f17 := f17.step0 o32
 replace f22 := f22.step0 o32
 replace f26 := f26.step0 o32
 replace f30 := f30.step0 o32
 replace oW := oW.tail0 o32
 refine wF ([(zf18 0), u2, u3, (zf18 3), (zf18 4), (zf18 5), (zf18 6), u16, u21, (zf18 9), undef] ++ (zs zf18 11 7 ++ [u16, u21, u21, u16, u25, u2, u29, u33] ++ (zs zf18 26 8 ++ (us 13 ++ [(zf18 47)] ++ (us 15))))) ?_
 refine wI (d_move rfl) ?_
 refine wO (d_call (xl := [.tmp 26, .const (.int .i64 60)]) (al := [u3, (eN 60)]) Try.func15 (by kernel_rfl) rfl rfl rfl (l4Data_ok lr 60 u3 _ (Ps.no h3) (by omega))) ?_
 rintro u37 w35 f38
 replace f38 := f38.ps
 obtain ⟨f38, o36⟩ := f38
 replace f38 := f38.less (Y := (Old W.heap.size)) (old_old oW.size)
 replace h1 := h1.step0 o36
 replace h2 := h2.step0 o36
 replace h3 := h3.step0 o36
 replace f17 := f17.step0 o36
 replace f22 := f22.step0 o36
 replace f26 := f26.step0 o36
 replace f30 := f30.step0 o36
 replace f34 := f34.step0 o36
 replace oW := oW.tail0 o36
 refine wI (d_move rfl) ?_
 refine wF ([(zf18 0), u2, u3, (zf18 3), (zf18 4), (zf18 5), (zf18 6), u16, u21, (zf18 9), undef] ++ (zs zf18 11 7 ++ [u16, u21, u21, u16, u25, u2, u29, u33, u3, u37, u3] ++ (zs zf18 29 5 ++ (us 13 ++ [(zf18 47)] ++ (us 15))))) ?_
 refine wO (d_buildL (cs := [u21, u33, u37, u3]) Try.underlying29 s_ti22 rfl (nb rfl) (parts_cons (vs := [u21]) (cells_of (v := u21) rfl (Seq.cells f22)) (parts_cons (vs := [u33]) (cells_of (v := u33) rfl (Seq.cells f34)) (parts_cons (vs := [u37]) (cells_of (v := u37) rfl (Seq.cells f38)) (parts_cons (vs := [u3]) (cells_of (v := u3) rfl (Seq.cells h3)) parts_nil)))) rfl) ?_
 rintro _ w40 ⟨b39, rfl, g41, a42, o43⟩
 have g_oW_b39 : W.heap.size ≤ b39 := Nat.le_trans oW.size g41
 replace h1 := h1.new o43 g41
 replace h2 := h2.new o43 g41
 replace h3 := h3.new o43 g41
 replace f17 := f17.new o43 g41
 replace f22 := f22.new o43 g41
 replace f26 := f26.new o43 g41
 replace f30 := f30.new o43 g41
 replace f34 := f34.new o43 g41
 replace f38 := f38.new o43 g41
 replace oW := oW.tail0 o43
 refine wI (d_assign rfl) ?_
 refine wF ([(zf18 0), u2, u3, (zf18 3), (zf18 4), (zf18 5), (zf18 6), u16, u21, (sli b39 0 4 4), undef] ++ (zs zf18 11 7 ++ [u16, u21, u21, u16, u25, u2, u29, u33, u3, u37, u3, (sli b39 0 4 4), (zf18 30), (zf18 31), (zf18 32), (zf18 33)] ++ (us 13 ++ [(zf18 47)] ++ (us 15)))) ?_
 refine wpL.done ?_
 refine then_n ?_
 refine forget (fun zf44 => ([(zf44 0), (zf44 1), u3, (zf44 3), (zf44 4), (zf44 5), (zf44 6), u16, u21, (sli b39 0 4 4), undef] ++ (zs zf44 11 23 ++ (us 13 ++ [(zf44 47)] ++ (us 15))))) (by kernel_rfl) (fun zf44 => ?_)
 refine wpIn_seq ?_
 refine wpIn_seq ?_
 refine plain ?_
 refine wI (d_assign rfl) ?_
 refine wF ([(zf44 0), (zf44 1), u3, (zf44 3), (zf44 4), (zf44 5), (zf44 6), u16, u21, (sli b39 0 4 4), (eN 0)] ++ (zs zf44 11 23 ++ (us 13 ++ [(zf44 47)] ++ (us 15)))) ?_
 refine wpL.done ?_
 refine then_n ?_
 refine wpIn_block ?_
 refine loop2 (fun (i : (Nat)) => fun (z : Nat → Value) => (([(zf44 0), (zf44 1), u3, (zf44 3), (zf44 4), (zf44 5), (z 6), u16, u21, (sli b39 0 4 4), (eN i)] ++ (zs zf44 11 19 ++ (zs z 30 18 ++ (us 15)))) : List Value)) (fun (i : (Nat)) => fun (w_ : World) => (i ≤ 4) ∧ Only (Or1 b39 No) w40 w_ ∧ Arr 22 b39 [u21, u33, u37, u3] w_) (fun (i : (Nat)) => 4 - i) 0 rfl ?_ ?_
 ·
  refine ⟨?_, ?_, ?_⟩
  ·
   (try dsimp only)
   all_goals (omega)
  ·
   exact Only.refl _ _
  ·
   exact a42
 rintro i z w46 ⟨hi, o45, a42⟩
 (try dsimp only)
 replace h1 := h1.step o45 (or1_mono no_any)
 replace h2 := h2.step o45 (or1_mono no_any)
 replace h3 := h3.step o45 (or1_mono no_any)
 replace f17 := f17.step o45 (or1_mono no_any)
 replace f22 := f22.step o45 (or1_mono no_any)
 replace f26 := f26.step o45 (or1_mono no_any)
 replace f30 := f30.step o45 (or1_mono no_any)
 replace f34 := f34.step o45 (or1_mono no_any)
 replace f38 := f38.step o45 (or1_mono no_any)
 replace oW := oW.tail o45 (tl_new g_oW_b39 tl_no)
 refine wpIn_seq ?_
 refine wpIn_seq ?_
 refine plain ?_
 refine wI (d_move rfl) ?_
 refine wI (n_lss (a := i) (b := 4) rfl rfl rfl) ?_
 refine wF ([(zf44 0), (zf44 1), u3, (zf44 3), (zf44 4), (zf44 5), (z 6), u16, u21, (sli b39 0 4 4), (eN i)] ++ (zs zf44 11 19 ++ [(eN i), (Value.bool (decide (i < 4)))] ++ (zs z 32 16 ++ (us 15)))) ?_
 refine wpL.done ?_
 refine then_n ?_
 refine cond_if rfl (fun c1 => ?_) (fun c1 => ?_)
 ·
  refine wpIn_skip ?_
  refine then_n ?_
  refine wpIn_seq ?_
  refine wpIn_block ?_
  refine wpIn_seq ?_
  by_cases e0 : i = 0
  ·
   subst e0
   refine wp_eq (l' := ([(zf44 0), (zf44 1), u3, (zf44 3), (zf44 4), (zf44 5), (z 6), u16, u21, (sli b39 0 4 4), (eN 0)] ++ (zs zf44 11 19 ++ [(eN 0), (Value.bool (decide (0 < 4)))] ++ (zs z 32 16 ++ (us 15))))) rfl ?_
   have hX0_ : ∀ k, (Or1 b39 (Old W.heap.size)) k → k < w46.heap.size := (lt_or1 a42.lt (fun k t => Nat.lt_of_lt_of_le t oW.size))
   have hO0_ : ∀ k, (Or1 b39 No) k → k < w46.heap.size := fun k h => hX0_ k ((or1_mono no_any) k h)
   refine drawnT (O := (Or1 b39 No)) (n := 14) 11 [0, 0, 0, 6, 14, 31, 63, 0, 0, 384, 896, 2047, 4095, 8191] [(0, 34), (1, 35), (2, 36), (3, 37), (4, 38), (5, 39), (6, 40), (7, 41), (8, 42), (9, 43), (10, 44), (11, 45), (12, 46), (13, 47)] [(0, 34), (1, 35), (2, 36), (3, 37), (4, 38), (5, 39), (6, 40), (7, 41), (8, 42), (9, 43), (10, 44)] [0, 1, 2, 3, 4, 5, 6, 7, 8, 9, 10] [] (fun i_ => ([RF.ar (Or1 b39 No) 5 0 (([] : List UInt8).map eB) w46.heap.size hO0_, RF.is (Or1 b39 No) (sli b39 0 4 4), RF.is (Or1 b39 No) (eN 0), RF.is (Or1 b39 No) (ptr b39 0), RF.is (Or1 b39 No) u21, RF.ps (Or1 b39 No) (Or1 b39 (Old W.heap.size)) (Seq kB (pgE (dataL la 48))) (or1_mono no_any), RF.ps (Or1 b39 No) (Or1 b39 (Old W.heap.size)) (PgV ((pgD (pgE (dataL la 48))).1) ((pgD (pgE (dataL la 48))).2)) (or1_mono no_any), RF.is (Or1 b39 No) (sli b39 0 4 4), RF.is (Or1 b39 No) (eN 0), RF.is (Or1 b39 No) (ptr b39 0), RF.is (Or1 b39 No) u21] : List (RF (Or1 b39 No))).getD i_ (RF.any (Or1 b39 No))) (fun _ w_ => Arr 22 b39 [u21, u33, u37, u3] w_) (fun v47 => ([(zf44 0), (zf44 1), u3, (zf44 3), (zf44 4), (zf44 5), (z 6), u16, u21, (sli b39 0 4 4), (eN 0)] ++ (zs zf44 11 19 ++ [(eN 0), (Value.bool (decide (0 < 4))), (z 32), (z 33), (v47 0), (v47 1), (v47 2), (v47 3), (v47 4), (v47 5), (v47 6), (v47 7), (v47 8), (v47 9), (v47 10), (v47 11), (v47 12), (v47 13)] ++ (us 15)))) (fun v47 => ([(zf44 0), (zf44 1), u3, (zf44 3), (zf44 4), (zf44 5), (z 6), u16, u21, (sli b39 0 4 4), (eN 0)] ++ (zs zf44 11 19 ++ [(eN 0), (Value.bool (decide (0 < 4))), (z 32), (z 33), (v47 0), (v47 1), (v47 2), (v47 3), (v47 4), (v47 5), (v47 6), (v47 7), (v47 8), (v47 9), (v47 10), (z 45), (z 46), (z 47)] ++ (us 15)))) s_mx (by kernel_rfl) rfl (by decide) (by rfl) (by kernel_rfl) (by kernel_rfl) (by kernel_rfl) (by rfl) (fun v_ => by kernel_rfl) (fun v_ => by kernel_rfl) (fun _ => fun w_ w2_ h ho => by have r_a42 := h; exact r_a42.step0 ho) a42 ?_ ?_ ?_
   ·
    refine ls_cons ?_ ?_
    ·
     intro v47 lo hi w_ k_ hO hd _ _ hk_ _ hR hold
     have r_a42 := hR
     clear hd hold
     refine ⟨_, rfl, gd rfl ?_⟩
     refine Does.mono (d_buildL (cs := []) Try.underlying22 s_ti5 rfl (nb rfl) parts_nil rfl) (fun u w' h => by obtain ⟨b_, rfl, hb_, hA_, hO_⟩ := h; exact ⟨⟨b_, rfl, hA_, Nat.le_trans hO.size hb_⟩, hO_⟩)
    refine ls_cons ?_ ?_
    ·
     intro v47 lo hi w_ k_ hO hd _ _ hk_ _ hR hold
     have r_a42 := hR
     clear hd hold
     refine ⟨_, rfl, gd rfl ?_⟩
     exact Does.is (d_move rfl)
    refine ls_cons ?_ ?_
    ·
     intro v47 lo hi w_ k_ hO hd _ _ hk_ _ hR hold
     have r_a42 := hR
     clear hd hold
     refine ⟨_, rfl, gd rfl ?_⟩
     exact Does.is (d_move rfl)
    refine ls_cons ?_ ?_
    ·
     intro v47 lo hi w_ k_ hO hd _ _ hk_ _ hR hold
     have r_a42 := hR
     have e1 : v47 1 = (sli b39 0 4 4) := hd 1 (by kernel_rfl)
     have e2 : v47 2 = (eN 0) := hd 2 (by kernel_rfl)
     clear hd hold
     refine ⟨_, rfl, gd rfl ?_⟩
     exact Does.is (d_index1 (n := 4) (i := 0) Try.underlying29 s_ti22 e1 (show _ = Value.int _ ((0 : Nat) : Int) from e2) (by omega))
    refine ls_cons ?_ ?_
    ·
     intro v47 lo hi w_ k_ hO hd _ _ hk_ _ hR hold
     have r_a42 := hR
     have e3 : v47 3 = (ptr b39 0) := hd 3 (by kernel_rfl)
     clear hd hold
     refine ⟨_, rfl, gd rfl ?_⟩
     exact Does.is (d_load (v := u21) ⟨_, Try.underlying22, rfl⟩ e3 r_a42 rfl)
    refine ls_cons ?_ ?_
    ·
     intro v47 lo hi w_ k_ hO hd _ _ hk_ _ hR hold
     have r_a42 := hR
     obtain ⟨mb0, me0, ma0, mf0⟩ : ∃ b, v47 0 = sli b 0 0 0 ∧ Arr 5 b (([] : List UInt8).map eB) w_ ∧ w46.heap.size ≤ b := hd 0 (by kernel_rfl)
     have e4 : v47 4 = u21 := hd 4 (by kernel_rfl)
     clear hd hold
     refine ⟨_, rfl, gd rfl ?_⟩
     refine Does.mono (R := AppFull 5 eB mb0 (pgE (dataL la 48)) w_) ?_ (fun u w' h => by obtain ⟨bo_, h1_, h2_, h3_⟩ := h; exact ⟨h1_.seq (not_of_lt hX0_ (fresh_of h2_ mf0 hO.size)), h3_⟩)
     exact d_append_full (xs := ([] : List UInt8)) (ys := (pgE (dataL la 48))) Try.underlying22 Try.underlying22 s_ti5 rfl me0 e4 ma0 (by simp) (SrcV.of_seq (f22.step hO (or1_mono no_any)) (fun _ => rfl)) (by simp only [List.length_nil]; omega) (by simp only [List.length_nil]; omega) rfl
    refine ls_cons ?_ ?_
    ·
     intro v47 lo hi w_ k_ hO hd _ _ hk_ _ hR hold
     have r_a42 := hR
     have d5 : Ps (Or1 b39 (Old W.heap.size)) (Seq kB (pgE (dataL la 48)) (v47 5)) w_ := hd 5 (by kernel_rfl)
     clear hd hold
     refine ⟨_, rfl, gd rfl ?_⟩
     refine Does.mono (R := RPg ((pgD (pgE (dataL la 48))).1) ((pgD (pgE (dataL la 48))).2) w_) ?_ (fun u w' h => by obtain ⟨a_, ea_, hp_, ho_⟩ := h; exact ⟨(PgV.mk ea_ hp_).less (or1_old r_a42.lt (old_old (Nat.le_trans oW.size hO.size))), ho_⟩)
     exact d_call (xl := [.tmp 39]) (al := [(v47 5)]) Try.func21 (by kernel_rfl) rfl rfl rfl (pageDecode_ok (pgE (dataL la 48)) (v47 5) _ (Ps.no d5) (by have := dataL_length la 48; have := pgE_len (dataL la 48); first | omega | (simp; done) | (simp; omega)))
    refine ls_cons ?_ ?_
    ·
     intro v47 lo hi w_ k_ hO hd _ _ hk_ _ hR hold
     have r_a42 := hR
     clear hd hold
     refine ⟨_, rfl, gd rfl ?_⟩
     exact Does.is (d_move rfl)
    refine ls_cons ?_ ?_
    ·
     intro v47 lo hi w_ k_ hO hd _ _ hk_ _ hR hold
     have r_a42 := hR
     clear hd hold
     refine ⟨_, rfl, gd rfl ?_⟩
     exact Does.is (d_move rfl)
    refine ls_cons ?_ ?_
    ·
     intro v47 lo hi w_ k_ hO hd _ _ hk_ _ hR hold
     have r_a42 := hR
     have e7 : v47 7 = (sli b39 0 4 4) := hd 7 (by kernel_rfl)
     have e8 : v47 8 = (eN 0) := hd 8 (by kernel_rfl)
     clear hd hold
     refine ⟨_, rfl, gd rfl ?_⟩
     exact Does.is (d_index1 (n := 4) (i := 0) Try.underlying29 s_ti22 e7 (show _ = Value.int _ ((0 : Nat) : Int) from e8) (by omega))
    refine ls_cons ?_ ?_
    ·
     intro v47 lo hi w_ k_ hO hd _ _ hk_ _ hR hold
     have r_a42 := hR
     have e9 : v47 9 = (ptr b39 0) := hd 9 (by kernel_rfl)
     clear hd hold
     refine ⟨_, rfl, gd rfl ?_⟩
     exact Does.is (d_load (v := u21) ⟨_, Try.underlying22, rfl⟩ e9 r_a42 rfl)
    exact ls_nil
   ·
    exact ms_nil
   intro v47 lo_ hi_ w48 o49 hd iv_ hR
   have e1 : v47 1 = (sli b39 0 4 4) := hd 1 (by decide)
   have e2 : v47 2 = (eN 0) := hd 2 (by decide)
   have e3 : v47 3 = (ptr b39 0) := hd 3 (by decide)
   have e4 : v47 4 = u21 := hd 4 (by decide)
   have e7 : v47 7 = (sli b39 0 4 4) := hd 7 (by decide)
   have e8 : v47 8 = (eN 0) := hd 8 (by decide)
   have e9 : v47 9 = (ptr b39 0) := hd 9 (by decide)
   have e10 : v47 10 = u21 := hd 10 (by decide)
   have f_v47_5 : Ps (Or1 b39 (Old W.heap.size)) (Seq kB (pgE (dataL la 48)) (v47 5)) w48 := hd 5 (by decide)
   obtain ⟨a_v47_6, e6, f_v47_6⟩ := PgV.out (show Ps (Or1 b39 (Old W.heap.size)) (PgV ((pgD (pgE (dataL la 48))).1) ((pgD (pgE (dataL la 48))).2) (v47 6)) w48 from hd 6 (by decide))
   clear hd iv_ lo_ hi_
   refine wpL.flat ([(zf44 0), (zf44 1), u3, (zf44 3), (zf44 4), (zf44 5), (z 6), u16, u21, (sli b39 0 4 4), (eN 0)] ++ (zs zf44 11 19 ++ [(eN 0), (Value.bool (decide (0 < 4))), (z 32), (z 33), (v47 0), (sli b39 0 4 4), (eN 0), (ptr b39 0), u21, (v47 5), (Value.agg #[(eN ((pgD (pgE (dataL la 48))).1)), a_v47_6]), (sli b39 0 4 4), (eN 0), (ptr b39 0), u21, (z 45), (z 46), (z 47)] ++ (us 15))) (by rw [e1, e2, e3, e4, e7, e8, e9, e10, e6] <;> rfl) ?_
   clear e1 e2 e3 e4 e7 e8 e9 e10 e6
   replace h1 := h1.step o49 (or1_mono no_any)
   replace h2 := h2.step o49 (or1_mono no_any)
   replace h3 := h3.step o49 (or1_mono no_any)
   replace f17 := f17.step o49 (or1_mono no_any)
   replace f22 := f22.step o49 (or1_mono no_any)
   replace f26 := f26.step o49 (or1_mono no_any)
   replace f30 := f30.step o49 (or1_mono no_any)
   replace f34 := f34.step o49 (or1_mono no_any)
   replace f38 := f38.step o49 (or1_mono no_any)
   replace a42 : Arr 22 b39 [u21, u33, u37, u3] w48 := hR
   clear hR
   replace oW := oW.tail o49 (tl_new g_oW_b39 tl_no)
   replace o45 := o45.tail o49 (tl_in in1 tl_no)
   refine wO (d_call (xl := [.tmp 44]) (al := [u21]) Try.func22 (by kernel_rfl) rfl rfl rfl (ref8Decode_ok (pgE (dataL la 48)) u21 _ (Ps.no f22) (by have := dataL_length la 48; have := pgE_len (dataL la 48); first | omega | (simp; done) | (simp; omega)))) ?_
   rintro _ w50 ⟨u52, rfl, f53, o51⟩
   replace f53 := f53.less (Y := (Or1 b39 (Old W.heap.size))) (or1_old a42.lt (old_old oW.size))
   replace h1 := h1.step0 o51
   replace h2 := h2.step0 o51
   replace h3 := h3.step0 o51
   replace f17 := f17.step0 o51
   replace f22 := f22.step0 o51
   replace f26 := f26.step0 o51
   replace f30 := f30.step0 o51
   replace f34 := f34.step0 o51
   replace f38 := f38.step0 o51
   replace f_v47_5 := f_v47_5.step0 o51
   replace f_v47_6 := f_v47_6.step0 o51
   replace a42 := a42.step0 o51
   replace oW := oW.tail0 o51
   replace o45 := o45.tail0 o51
   refine wF ([(zf44 0), (zf44 1), u3, (zf44 3), (zf44 4), (zf44 5), (z 6), u16, u21, (sli b39 0 4 4), (eN 0)] ++ (zs zf44 11 19 ++ [(eN 0), (Value.bool (decide (0 < 4))), (z 32), (z 33), (v47 0), (sli b39 0 4 4), (eN 0), (ptr b39 0), u21, (v47 5), (Value.agg #[(eN ((pgD (pgE (dataL la 48))).1)), a_v47_6]), (sli b39 0 4 4), (eN 0), (ptr b39 0), u21, (Value.agg #[(eN ((pgD (pgE (dataL la 48))).1)), u52]), (z 46), (z 47)] ++ (us 15))) ?_
   refine wO (d_call (xl := [.tmp 40, .tmp 45]) (al := [(Value.agg #[(eN ((pgD (pgE (dataL la 48))).1)), a_v47_6]), (Value.agg #[(eN ((pgD (pgE (dataL la 48))).1)), u52])]) Try.func20 (by kernel_rfl) rfl rfl rfl (l8same_ok ((pgD (pgE (dataL la 48))).1) ((pgD (pgE (dataL la 48))).2) a_v47_6 u52 _ (Ps.no f_v47_6) (Ps.no f53))) ?_
   rintro _ w54 ⟨rfl, o55⟩
   replace h1 := h1.step0 o55
   replace h2 := h2.step0 o55
   replace h3 := h3.step0 o55
   replace f17 := f17.step0 o55
   replace f22 := f22.step0 o55
   replace f26 := f26.step0 o55
   replace f30 := f30.step0 o55
   replace f34 := f34.step0 o55
   replace f38 := f38.step0 o55
   replace f_v47_5 := f_v47_5.step0 o55
   replace f_v47_6 := f_v47_6.step0 o55
   replace f53 := f53.step0 o55
   replace a42 := a42.step0 o55
   replace oW := oW.tail0 o55
   replace o45 := o45.tail0 o55
   refine wI (d_not rfl rfl) ?_
   refine wF ([(zf44 0), (zf44 1), u3, (zf44 3), (zf44 4), (zf44 5), (z 6), u16, u21, (sli b39 0 4 4), (eN 0)] ++ (zs zf44 11 19 ++ [(eN 0), (Value.bool (decide (0 < 4))), (z 32), (z 33), (v47 0), (sli b39 0 4 4), (eN 0), (ptr b39 0), u21, (v47 5), (Value.agg #[(eN ((pgD (pgE (dataL la 48))).1)), a_v47_6]), (sli b39 0 4 4), (eN 0), (ptr b39 0), u21, (Value.agg #[(eN ((pgD (pgE (dataL la 48))).1)), u52]), (Value.bool true), (Value.bool false)] ++ (us 15))) ?_
   refine wpL.done ?_
   refine then_n ?_
   refine cond_f rfl ?_
   refine wpIn_skip ?_
   refine inb_n (then_n ?_)
   refine plain ?_
   refine wI (d_move rfl) ?_
   refine wI (n_add (a := 0) (b := 1) rfl rfl (by omega)) ?_
   refine wI (d_assign rfl) ?_
   refine wF ([(zf44 0), (zf44 1), u3, (zf44 3), (zf44 4), (zf44 5), (z 6), u16, u21, (sli b39 0 4 4), (eN 1)] ++ (zs zf44 11 19 ++ [(eN 0), (Value.bool (decide (0 < 4))), (eN 0), (eN 1), (v47 0), (sli b39 0 4 4), (eN 0), (ptr b39 0), u21, (v47 5), (Value.agg #[(eN ((pgD (pgE (dataL la 48))).1)), a_v47_6]), (sli b39 0 4 4), (eN 0), (ptr b39 0), u21, (Value.agg #[(eN ((pgD (pgE (dataL la 48))).1)), u52]), (Value.bool true), (Value.bool false)] ++ (us 15))) ?_
   refine wpL.done ?_
   refine then_n ?_
   refine ⟨_, 1, rfl, rfl, ⟨?_, ?_, ?_⟩, ?_⟩
   ·
    (try dsimp only)
    all_goals (omega)
   ·
    exact o45
   ·
    exact a42
   ·
    (try dsimp only)
    all_goals (omega)
  by_cases e1 : i = 1
  ·
   subst e1
   refine wp_eq (l' := ([(zf44 0), (zf44 1), u3, (zf44 3), (zf44 4), (zf44 5), (z 6), u16, u21, (sli b39 0 4 4), (eN 1)] ++ (zs zf44 11 19 ++ [(eN 1), (Value.bool (decide (1 < 4)))] ++ (zs z 32 16 ++ (us 15))))) rfl ?_
   have hX0_ : ∀ k, (Or1 b39 (Old W.heap.size)) k → k < w46.heap.size := (lt_or1 a42.lt (fun k t => Nat.lt_of_lt_of_le t oW.size))
   have hO0_ : ∀ k, (Or1 b39 No) k → k < w46.heap.size := fun k h => hX0_ k ((or1_mono no_any) k h)
   refine drawnT (O := (Or1 b39 No)) (n := 14) 11 [0, 0, 0, 6, 14, 31, 63, 0, 0, 384, 896, 2047, 4095, 8191] [(0, 34), (1, 35), (2, 36), (3, 37), (4, 38), (5, 39), (6, 40), (7, 41), (8, 42), (9, 43), (10, 44), (11, 45), (12, 46), (13, 47)] [(0, 34), (1, 35), (2, 36), (3, 37), (4, 38), (5, 39), (6, 40), (7, 41), (8, 42), (9, 43), (10, 44)] [0, 1, 2, 3, 4, 5, 6, 7, 8, 9, 10] [] (fun i_ => ([RF.ar (Or1 b39 No) 5 0 (([] : List UInt8).map eB) w46.heap.size hO0_, RF.is (Or1 b39 No) (sli b39 0 4 4), RF.is (Or1 b39 No) (eN 1), RF.is (Or1 b39 No) (ptr b39 1), RF.is (Or1 b39 No) u33, RF.ps (Or1 b39 No) (Or1 b39 (Old W.heap.size)) (Seq kB (flipL (pgE (dataL la 48)) (placesL ll 480 12))) (or1_mono no_any), RF.ps (Or1 b39 No) (Or1 b39 (Old W.heap.size)) (PgV ((pgD (flipL (pgE (dataL la 48)) (placesL ll 480 12))).1) ((pgD (flipL (pgE (dataL la 48)) (placesL ll 480 12))).2)) (or1_mono no_any), RF.is (Or1 b39 No) (sli b39 0 4 4), RF.is (Or1 b39 No) (eN 1), RF.is (Or1 b39 No) (ptr b39 1), RF.is (Or1 b39 No) u33] : List (RF (Or1 b39 No))).getD i_ (RF.any (Or1 b39 No))) (fun _ w_ => Arr 22 b39 [u21, u33, u37, u3] w_) (fun v56 => ([(zf44 0), (zf44 1), u3, (zf44 3), (zf44 4), (zf44 5), (z 6), u16, u21, (sli b39 0 4 4), (eN 1)] ++ (zs zf44 11 19 ++ [(eN 1), (Value.bool (decide (1 < 4))), (z 32), (z 33), (v56 0), (v56 1), (v56 2), (v56 3), (v56 4), (v56 5), (v56 6), (v56 7), (v56 8), (v56 9), (v56 10), (v56 11), (v56 12), (v56 13)] ++ (us 15)))) (fun v56 => ([(zf44 0), (zf44 1), u3, (zf44 3), (zf44 4), (zf44 5), (z 6), u16, u21, (sli b39 0 4 4), (eN 1)] ++ (zs zf44 11 19 ++ [(eN 1), (Value.bool (decide (1 < 4))), (z 32), (z 33), (v56 0), (v56 1), (v56 2), (v56 3), (v56 4), (v56 5), (v56 6), (v56 7), (v56 8), (v56 9), (v56 10), (z 45), (z 46), (z 47)] ++ (us 15)))) s_mx (by kernel_rfl) rfl (by decide) (by rfl) (by kernel_rfl) (by kernel_rfl) (by kernel_rfl) (by rfl) (fun v_ => by kernel_rfl) (fun v_ => by kernel_rfl) (fun _ => fun w_ w2_ h ho => by have r_a42 := h; exact r_a42.step0 ho) a42 ?_ ?_ ?_
   ·
    refine ls_cons ?_ ?_
    ·
     intro v56 lo hi w_ k_ hO hd _ _ hk_ _ hR hold
     have r_a42 := hR
     clear hd hold
     refine ⟨_, rfl, gd rfl ?_⟩
     refine Does.mono (d_buildL (cs := []) Try.underlying22 s_ti5 rfl (nb rfl) parts_nil rfl) (fun u w' h => by obtain ⟨b_, rfl, hb_, hA_, hO_⟩ := h; exact ⟨⟨b_, rfl, hA_, Nat.le_trans hO.size hb_⟩, hO_⟩)
    refine ls_cons ?_ ?_
    ·
     intro v56 lo hi w_ k_ hO hd _ _ hk_ _ hR hold
     have r_a42 := hR
     clear hd hold
     refine ⟨_, rfl, gd rfl ?_⟩
     exact Does.is (d_move rfl)
    refine ls_cons ?_ ?_
    ·
     intro v56 lo hi w_ k_ hO hd _ _ hk_ _ hR hold
     have r_a42 := hR
     clear hd hold
     refine ⟨_, rfl, gd rfl ?_⟩
     exact Does.is (d_move rfl)
    refine ls_cons ?_ ?_
    ·
     intro v56 lo hi w_ k_ hO hd _ _ hk_ _ hR hold
     have r_a42 := hR
     have e1 : v56 1 = (sli b39 0 4 4) := hd 1 (by kernel_rfl)
     have e2 : v56 2 = (eN 1) := hd 2 (by kernel_rfl)
     clear hd hold
     refine ⟨_, rfl, gd rfl ?_⟩
     exact Does.is (d_index1 (n := 4) (i := 1) Try.underlying29 s_ti22 e1 (show _ = Value.int _ ((1 : Nat) : Int) from e2) (by omega))
    refine ls_cons ?_ ?_
    ·
     intro v56 lo hi w_ k_ hO hd _ _ hk_ _ hR hold
     have r_a42 := hR
     have e3 : v56 3 = (ptr b39 1) := hd 3 (by kernel_rfl)
     clear hd hold
     refine ⟨_, rfl, gd rfl ?_⟩
     exact Does.is (d_load (v := u33) ⟨_, Try.underlying22, rfl⟩ e3 r_a42 rfl)
    refine ls_cons ?_ ?_
    ·
     intro v56 lo hi w_ k_ hO hd _ _ hk_ _ hR hold
     have r_a42 := hR
     obtain ⟨mb0, me0, ma0, mf0⟩ : ∃ b, v56 0 = sli b 0 0 0 ∧ Arr 5 b (([] : List UInt8).map eB) w_ ∧ w46.heap.size ≤ b := hd 0 (by kernel_rfl)
     have e4 : v56 4 = u33 := hd 4 (by kernel_rfl)
     clear hd hold
     refine ⟨_, rfl, gd rfl ?_⟩
     refine Does.mono (R := AppFull 5 eB mb0 (flipL (pgE (dataL la 48)) (placesL ll 480 12)) w_) ?_ (fun u w' h => by obtain ⟨bo_, h1_, h2_, h3_⟩ := h; exact ⟨h1_.seq (not_of_lt hX0_ (fresh_of h2_ mf0 hO.size)), h3_⟩)
     exact d_append_full (xs := ([] : List UInt8)) (ys := (flipL (pgE (dataL la 48)) (placesL ll 480 12))) Try.underlying22 Try.underlying22 s_ti5 rfl me0 e4 ma0 (by simp) (SrcV.of_seq (f34.step hO (or1_mono no_any)) (fun _ => rfl)) (by simp only [List.length_nil]; omega) (by simp only [List.length_nil]; omega) rfl
    refine ls_cons ?_ ?_
    ·
     intro v56 lo hi w_ k_ hO hd _ _ hk_ _ hR hold
     have r_a42 := hR
     have d5 : Ps (Or1 b39 (Old W.heap.size)) (Seq kB (flipL (pgE (dataL la 48)) (placesL ll 480 12)) (v56 5)) w_ := hd 5 (by kernel_rfl)
     clear hd hold
     refine ⟨_, rfl, gd rfl ?_⟩
     refine Does.mono (R := RPg ((pgD (flipL (pgE (dataL la 48)) (placesL ll 480 12))).1) ((pgD (flipL (pgE (dataL la 48)) (placesL ll 480 12))).2) w_) ?_ (fun u w' h => by obtain ⟨a_, ea_, hp_, ho_⟩ := h; exact ⟨(PgV.mk ea_ hp_).less (or1_old r_a42.lt (old_old (Nat.le_trans oW.size hO.size))), ho_⟩)
     exact d_call (xl := [.tmp 39]) (al := [(v56 5)]) Try.func21 (by kernel_rfl) rfl rfl rfl (pageDecode_ok (flipL (pgE (dataL la 48)) (placesL ll 480 12)) (v56 5) _ (Ps.no d5) (by have := flipL_length (pgE (dataL la 48)) (placesL ll 480 12); have := places_le ll 480 12; have := dataL_length la 48; have := pgE_len (dataL la 48); first | omega | (simp; done) | (simp; omega)))
    refine ls_cons ?_ ?_
    ·
     intro v56 lo hi w_ k_ hO hd _ _ hk_ _ hR hold
     have r_a42 := hR
     clear hd hold
     refine ⟨_, rfl, gd rfl ?_⟩
     exact Does.is (d_move rfl)
    refine ls_cons ?_ ?_
    ·
     intro v56 lo hi w_ k_ hO hd _ _ hk_ _ hR hold
     have r_a42 := hR
     clear hd hold
     refine ⟨_, rfl, gd rfl ?_⟩
     exact Does.is (d_move rfl)
    refine ls_cons ?_ ?_
    ·
     intro v56 lo hi w_ k_ hO hd _ _ hk_ _ hR hold
     have r_a42 := hR
     have e7 : v56 7 = (sli b39 0 4 4) := hd 7 (by kernel_rfl)
     have e8 : v56 8 = (eN 1) := hd 8 (by kernel_rfl)
     clear hd hold
     refine ⟨_, rfl, gd rfl ?_⟩
     exact Does.is (d_index1 (n := 4) (i := 1) Try.underlying29 s_ti22 e7 (show _ = Value.int _ ((1 : Nat) : Int) from e8) (by omega))
    refine ls_cons ?_ ?_
    ·
     intro v56 lo hi w_ k_ hO hd _ _ hk_ _ hR hold
     have r_a42 := hR
     have e9 : v56 9 = (ptr b39 1) := hd 9 (by kernel_rfl)
     clear hd hold
     refine ⟨_, rfl, gd rfl ?_⟩
     exact Does.is (d_load (v := u33) ⟨_, Try.underlying22, rfl⟩ e9 r_a42 rfl)
    exact ls_nil
   ·
    exact ms_nil
   intro v56 lo_ hi_ w57 o58 hd iv_ hR
   have e1 : v56 1 = (sli b39 0 4 4) := hd 1 (by decide)
   have e2 : v56 2 = (eN 1) := hd 2 (by decide)
   have e3 : v56 3 = (ptr b39 1) := hd 3 (by decide)
   have e4 : v56 4 = u33 := hd 4 (by decide)
   have e7 : v56 7 = (sli b39 0 4 4) := hd 7 (by decide)
   have e8 : v56 8 = (eN 1) := hd 8 (by decide)
   have e9 : v56 9 = (ptr b39 1) := hd 9 (by decide)
   have e10 : v56 10 = u33 := hd 10 (by decide)
   have f_v56_5 : Ps (Or1 b39 (Old W.heap.size)) (Seq kB (flipL (pgE (dataL la 48)) (placesL ll 480 12)) (v56 5)) w57 := hd 5 (by decide)
   obtain ⟨a_v56_6, e6, f_v56_6⟩ := PgV.out (show Ps (Or1 b39 (Old W.heap.size)) (PgV ((pgD (flipL (pgE (dataL la 48)) (placesL ll 480 12))).1) ((pgD (flipL (pgE (dataL la 48)) (placesL ll 480 12))).2) (v56 6)) w57 from hd 6 (by decide))
   clear hd iv_ lo_ hi_
   refine wpL.flat ([(zf44 0), (zf44 1), u3, (zf44 3), (zf44 4), (zf44 5), (z 6), u16, u21, (sli b39 0 4 4), (eN 1)] ++ (zs zf44 11 19 ++ [(eN 1), (Value.bool (decide (1 < 4))), (z 32), (z 33), (v56 0), (sli b39 0 4 4), (eN 1), (ptr b39 1), u33, (v56 5), (Value.agg #[(eN ((pgD (flipL (pgE (dataL la 48)) (placesL ll 480 12))).1)), a_v56_6]), (sli b39 0 4 4), (eN 1), (ptr b39 1), u33, (z 45), (z 46), (z 47)] ++ (us 15))) (by rw [e1, e2, e3, e4, e7, e8, e9, e10, e6] <;> rfl) ?_
   clear e1 e2 e3 e4 e7 e8 e9 e10 e6
   replace h1 := h1.step o58 (or1_mono no_any)
   replace h2 := h2.step o58 (or1_mono no_any)
   replace h3 := h3.step o58 (or1_mono no_any)
   replace f17 := f17.step o58 (or1_mono no_any)
   replace f22 := f22.step o58 (or1_mono no_any)
   replace f26 := f26.step o58 (or1_mono no_any)
   replace f30 := f30.step o58 (or1_mono no_any)
   replace f34 := f34.step o58 (or1_mono no_any)
   replace f38 := f38.step o58 (or1_mono no_any)
   replace a42 : Arr 22 b39 [u21, u33, u37, u3] w57 := hR
   clear hR
   replace oW := oW.tail o58 (tl_new g_oW_b39 tl_no)
   replace o45 := o45.tail o58 (tl_in in1 tl_no)
   refine wO (d_call (xl := [.tmp 44]) (al := [u33]) Try.func22 (by kernel_rfl) rfl rfl rfl (ref8Decode_ok (flipL (pgE (dataL la 48)) (placesL ll 480 12)) u33 _ (Ps.no f34) (by have := flipL_length (pgE (dataL la 48)) (placesL ll 480 12); have := places_le ll 480 12; have := dataL_length la 48; have := pgE_len (dataL la 48); first | omega | (simp; done) | (simp; omega)))) ?_
   rintro _ w59 ⟨u61, rfl, f62, o60⟩
   replace f62 := f62.less (Y := (Or1 b39 (Old W.heap.size))) (or1_old a42.lt (old_old oW.size))
   replace h1 := h1.step0 o60
   replace h2 := h2.step0 o60
   replace h3 := h3.step0 o60
   replace f17 := f17.step0 o60
   replace f22 := f22.step0 o60
   replace f26 := f26.step0 o60
   replace f30 := f30.step0 o60
   replace f34 := f34.step0 o60
   replace f38 := f38.step0 o60
   replace f_v56_5 := f_v56_5.step0 o60
   replace f_v56_6 := f_v56_6.step0 o60
   replace a42 := a42.step0 o60
   replace oW := oW.tail0 o60
   replace o45 := o45.tail0 o60
   refine wF ([(zf44 0), (zf44 1), u3, (zf44 3), (zf44 4), (zf44 5), (z 6), u16, u21, (sli b39 0 4 4), (eN 1)] ++ (zs zf44 11 19 ++ [(eN 1), (Value.bool (decide (1 < 4))), (z 32), (z 33), (v56 0), (sli b39 0 4 4), (eN 1), (ptr b39 1), u33, (v56 5), (Value.agg #[(eN ((pgD (flipL (pgE (dataL la 48)) (placesL ll 480 12))).1)), a_v56_6]), (sli b39 0 4 4), (eN 1), (ptr b39 1), u33, (Value.agg #[(eN ((pgD (flipL (pgE (dataL la 48)) (placesL ll 480 12))).1)), u61]), (z 46), (z 47)] ++ (us 15))) ?_
   refine wO (d_call (xl := [.tmp 40, .tmp 45]) (al := [(Value.agg #[(eN ((pgD (flipL (pgE (dataL la 48)) (placesL ll 480 12))).1)), a_v56_6]), (Value.agg #[(eN ((pgD (flipL (pgE (dataL la 48)) (placesL ll 480 12))).1)), u61])]) Try.func20 (by kernel_rfl) rfl rfl rfl (l8same_ok ((pgD (flipL (pgE (dataL la 48)) (placesL ll 480 12))).1) ((pgD (flipL (pgE (dataL la 48)) (placesL ll 480 12))).2) a_v56_6 u61 _ (Ps.no f_v56_6) (Ps.no f62))) ?_
   rintro _ w63 ⟨rfl, o64⟩
   replace h1 := h1.step0 o64
   replace h2 := h2.step0 o64
   replace h3 := h3.step0 o64
   replace f17 := f17.step0 o64
   replace f22 := f22.step0 o64
   replace f26 := f26.step0 o64
   replace f30 := f30.step0 o64
   replace f34 := f34.step0 o64
   replace f38 := f38.step0 o64
   replace f_v56_5 := f_v56_5.step0 o64
   replace f_v56_6 := f_v56_6.step0 o64
   replace f62 := f62.step0 o64
   replace a42 := a42.step0 o64
   replace oW := oW.tail0 o64
   replace o45 := o45.tail0 o64
   refine wI (d_not rfl rfl) ?_
   refine wF ([(zf44 0), (zf44 1), u3, (zf44 3), (zf44 4), (zf44 5), (z 6), u16, u21, (sli b39 0 4 4), (eN 1)] ++ (zs zf44 11 19 ++ [(eN 1), (Value.bool (decide (1 < 4))), (z 32), (z 33), (v56 0), (sli b39 0 4 4), (eN 1), (ptr b39 1), u33, (v56 5), (Value.agg #[(eN ((pgD (flipL (pgE (dataL la 48)) (placesL ll 480 12))).1)), a_v56_6]), (sli b39 0 4 4), (eN 1), (ptr b39 1), u33, (Value.agg #[(eN ((pgD (flipL (pgE (dataL la 48)) (placesL ll 480 12))).1)), u61]), (Value.bool true), (Value.bool false)] ++ (us 15))) ?_
   refine wpL.done ?_
   refine then_n ?_
   refine cond_f rfl ?_
   refine wpIn_skip ?_
   refine inb_n (then_n ?_)
   refine plain ?_
   refine wI (d_move rfl) ?_
   refine wI (n_add (a := 1) (b := 1) rfl rfl (by omega)) ?_
   refine wI (d_assign rfl) ?_
   refine wF ([(zf44 0), (zf44 1), u3, (zf44 3), (zf44 4), (zf44 5), (z 6), u16, u21, (sli b39 0 4 4), (eN 2)] ++ (zs zf44 11 19 ++ [(eN 1), (Value.bool (decide (1 < 4))), (eN 1), (eN 2), (v56 0), (sli b39 0 4 4), (eN 1), (ptr b39 1), u33, (v56 5), (Value.agg #[(eN ((pgD (flipL (pgE (dataL la 48)) (placesL ll 480 12))).1)), a_v56_6]), (sli b39 0 4 4), (eN 1), (ptr b39 1), u33, (Value.agg #[(eN ((pgD (flipL (pgE (dataL la 48)) (placesL ll 480 12))).1)), u61]), (Value.bool true), (Value.bool false)] ++ (us 15))) ?_
   refine wpL.done ?_
   refine then_n ?_
   refine ⟨_, 2, rfl, rfl, ⟨?_, ?_, ?_⟩, ?_⟩
   ·
    (try dsimp only)
    all_goals (omega)
   ·
    exact o45
   ·
    exact a42
   ·
    (try dsimp only)
    all_goals (omega)
  by_cases e2 : i = 2
  ·
   subst e2
   refine wp_eq (l' := ([(zf44 0), (zf44 1), u3, (zf44 3), (zf44 4), (zf44 5), (z 6), u16, u21, (sli b39 0 4 4), (eN 2)] ++ (zs zf44 11 19 ++ [(eN 2), (Value.bool (decide (2 < 4)))] ++ (zs z 32 16 ++ (us 15))))) rfl ?_
   have hX0_ : ∀ k, (Or1 b39 (Old W.heap.size)) k → k < w46.heap.size := (lt_or1 a42.lt (fun k t => Nat.lt_of_lt_of_le t oW.size))
   have hO0_ : ∀ k, (Or1 b39 No) k → k < w46.heap.size := fun k h => hX0_ k ((or1_mono no_any) k h)
   refine drawnT (O := (Or1 b39 No)) (n := 14) 11 [0, 0, 0, 6, 14, 31, 63, 0, 0, 384, 896, 2047, 4095, 8191] [(0, 34), (1, 35), (2, 36), (3, 37), (4, 38), (5, 39), (6, 40), (7, 41), (8, 42), (9, 43), (10, 44), (11, 45), (12, 46), (13, 47)] [(0, 34), (1, 35), (2, 36), (3, 37), (4, 38), (5, 39), (6, 40), (7, 41), (8, 42), (9, 43), (10, 44)] [0, 1, 2, 3, 4, 5, 6, 7, 8, 9, 10] [] (fun i_ => ([RF.ar (Or1 b39 No) 5 0 (([] : List UInt8).map eB) w46.heap.size hO0_, RF.is (Or1 b39 No) (sli b39 0 4 4), RF.is (Or1 b39 No) (eN 2), RF.is (Or1 b39 No) (ptr b39 2), RF.is (Or1 b39 No) u37, RF.ps (Or1 b39 No) (Or1 b39 (Old W.heap.size)) (Seq kB (dataL lr 60)) (or1_mono no_any), RF.ps (Or1 b39 No) (Or1 b39 (Old W.heap.size)) (PgV ((pgD (dataL lr 60)).1) ((pgD (dataL lr 60)).2)) (or1_mono no_any), RF.is (Or1 b39 No) (sli b39 0 4 4), RF.is (Or1 b39 No) (eN 2), RF.is (Or1 b39 No) (ptr b39 2), RF.is (Or1 b39 No) u37] : List (RF (Or1 b39 No))).getD i_ (RF.any (Or1 b39 No))) (fun _ w_ => Arr 22 b39 [u21, u33, u37, u3] w_) (fun v65 => ([(zf44 0), (zf44 1), u3, (zf44 3), (zf44 4), (zf44 5), (z 6), u16, u21, (sli b39 0 4 4), (eN 2)] ++ (zs zf44 11 19 ++ [(eN 2), (Value.bool (decide (2 < 4))), (z 32), (z 33), (v65 0), (v65 1), (v65 2), (v65 3), (v65 4), (v65 5), (v65 6), (v65 7), (v65 8), (v65 9), (v65 10), (v65 11), (v65 12), (v65 13)] ++ (us 15)))) (fun v65 => ([(zf44 0), (zf44 1), u3, (zf44 3), (zf44 4), (zf44 5), (z 6), u16, u21, (sli b39 0 4 4), (eN 2)] ++ (zs zf44 11 19 ++ [(eN 2), (Value.bool (decide (2 < 4))), (z 32), (z 33), (v65 0), (v65 1), (v65 2), (v65 3), (v65 4), (v65 5), (v65 6), (v65 7), (v65 8), (v65 9), (v65 10), (z 45), (z 46), (z 47)] ++ (us 15)))) s_mx (by kernel_rfl) rfl (by decide) (by rfl) (by kernel_rfl) (by kernel_rfl) (by kernel_rfl) (by rfl) (fun v_ => by kernel_rfl) (fun v_ => by kernel_rfl) (fun _ => fun w_ w2_ h ho => by have r_a42 := h; exact r_a42.step0 ho) a42 ?_ ?_ ?_
   ·
    refine ls_cons ?_ ?_
    ·
     intro v65 lo hi w_ k_ hO hd _ _ hk_ _ hR hold
     have r_a42 := hR
     clear hd hold
     refine ⟨_, rfl, gd rfl ?_⟩
     refine Does.mono (d_buildL (cs := []) Try.underlying22 s_ti5 rfl (nb rfl) parts_nil rfl) (fun u w' h => by obtain ⟨b_, rfl, hb_, hA_, hO_⟩ := h; exact ⟨⟨b_, rfl, hA_, Nat.le_trans hO.size hb_⟩, hO_⟩)
    refine ls_cons ?_ ?_
    ·
     intro v65 lo hi w_ k_ hO hd _ _ hk_ _ hR hold
     have r_a42 := hR
     clear hd hold
     refine ⟨_, rfl, gd rfl ?_⟩
     exact Does.is (d_move rfl)
    refine ls_cons ?_ ?_
    ·
     intro v65 lo hi w_ k_ hO hd _ _ hk_ _ hR hold
     have r_a42 := hR
     clear hd hold
     refine ⟨_, rfl, gd rfl ?_⟩
     exact Does.is (d_move rfl)
    refine ls_cons ?_ ?_
    ·
     intro v65 lo hi w_ k_ hO hd _ _ hk_ _ hR hold
     have r_a42 := hR
     have e1 : v65 1 = (sli b39 0 4 4) := hd 1 (by kernel_rfl)
     have e2 : v65 2 = (eN 2) := hd 2 (by kernel_rfl)
     clear hd hold
     refine ⟨_, rfl, gd rfl ?_⟩
     exact Does.is (d_index1 (n := 4) (i := 2) Try.underlying29 s_ti22 e1 (show _ = Value.int _ ((2 : Nat) : Int) from e2) (by omega))
    refine ls_cons ?_ ?_
    ·
     intro v65 lo hi w_ k_ hO hd _ _ hk_ _ hR hold
     have r_a42 := hR
     have e3 : v65 3 = (ptr b39 2) := hd 3 (by kernel_rfl)
     clear hd hold
     refine ⟨_, rfl, gd rfl ?_⟩
     exact Does.is (d_load (v := u37) ⟨_, Try.underlying22, rfl⟩ e3 r_a42 rfl)
    refine ls_cons ?_ ?_
    ·
     intro v65 lo hi w_ k_ hO hd _ _ hk_ _ hR hold
     have r_a42 := hR
     obtain ⟨mb0, me0, ma0, mf0⟩ : ∃ b, v65 0 = sli b 0 0 0 ∧ Arr 5 b (([] : List UInt8).map eB) w_ ∧ w46.heap.size ≤ b := hd 0 (by kernel_rfl)
     have e4 : v65 4 = u37 := hd 4 (by kernel_rfl)
     clear hd hold
     refine ⟨_, rfl, gd rfl ?_⟩
     refine Does.mono (R := AppFull 5 eB mb0 (dataL lr 60) w_) ?_ (fun u w' h => by obtain ⟨bo_, h1_, h2_, h3_⟩ := h; exact ⟨h1_.seq (not_of_lt hX0_ (fresh_of h2_ mf0 hO.size)), h3_⟩)
     exact d_append_full (xs := ([] : List UInt8)) (ys := (dataL lr 60)) Try.underlying22 Try.underlying22 s_ti5 rfl me0 e4 ma0 (by simp) (SrcV.of_seq (f38.step hO (or1_mono no_any)) (fun _ => rfl)) (by simp only [List.length_nil]; omega) (by simp only [List.length_nil]; omega) rfl
    refine ls_cons ?_ ?_
    ·
     intro v65 lo hi w_ k_ hO hd _ _ hk_ _ hR hold
     have r_a42 := hR
     have d5 : Ps (Or1 b39 (Old W.heap.size)) (Seq kB (dataL lr 60) (v65 5)) w_ := hd 5 (by kernel_rfl)
     clear hd hold
     refine ⟨_, rfl, gd rfl ?_⟩
     refine Does.mono (R := RPg ((pgD (dataL lr 60)).1) ((pgD (dataL lr 60)).2) w_) ?_ (fun u w' h => by obtain ⟨a_, ea_, hp_, ho_⟩ := h; exact ⟨(PgV.mk ea_ hp_).less (or1_old r_a42.lt (old_old (Nat.le_trans oW.size hO.size))), ho_⟩)
     exact d_call (xl := [.tmp 39]) (al := [(v65 5)]) Try.func21 (by kernel_rfl) rfl rfl rfl (pageDecode_ok (dataL lr 60) (v65 5) _ (Ps.no d5) (by have := dataL_length lr 60; first | omega | (simp; done) | (simp; omega)))
    refine ls_cons ?_ ?_
    ·
     intro v65 lo hi w_ k_ hO hd _ _ hk_ _ hR hold
     have r_a42 := hR
     clear hd hold
     refine ⟨_, rfl, gd rfl ?_⟩
     exact Does.is (d_move rfl)
    refine ls_cons ?_ ?_
    ·
     intro v65 lo hi w_ k_ hO hd _ _ hk_ _ hR hold
     have r_a42 := hR
     clear hd hold
     refine ⟨_, rfl, gd rfl ?_⟩
     exact Does.is (d_move rfl)
    refine ls_cons ?_ ?_
    ·
     intro v65 lo hi w_ k_ hO hd _ _ hk_ _ hR hold
     have r_a42 := hR
     have e7 : v65 7 = (sli b39 0 4 4) := hd 7 (by kernel_rfl)
     have e8 : v65 8 = (eN 2) := hd 8 (by kernel_rfl)
     clear hd hold
     refine ⟨_, rfl, gd rfl ?_⟩
     exact Does.is (d_index1 (n := 4) (i := 2) Try.underlying29 s_ti22 e7 (show _ = Value.int _ ((2 : Nat) : Int) from e8) (by omega))
    refine ls_cons ?_ ?_
    ·
     intro v65 lo hi w_ k_ hO hd _ _ hk_ _ hR hold
     have r_a42 := hR
     have e9 : v65 9 = (ptr b39 2) := hd 9 (by kernel_rfl)
     clear hd hold
     refine ⟨_, rfl, gd rfl ?_⟩
     exact Does.is (d_load (v := u37) ⟨_, Try.underlying22, rfl⟩ e9 r_a42 rfl)
    exact ls_nil
   ·
    exact ms_nil
   intro v65 lo_ hi_ w66 o67 hd iv_ hR
   have e1 : v65 1 = (sli b39 0 4 4) := hd 1 (by decide)
   have e2 : v65 2 = (eN 2) := hd 2 (by decide)
   have e3 : v65 3 = (ptr b39 2) := hd 3 (by decide)
   have e4 : v65 4 = u37 := hd 4 (by decide)
   have e7 : v65 7 = (sli b39 0 4 4) := hd 7 (by decide)
   have e8 : v65 8 = (eN 2) := hd 8 (by decide)
   have e9 : v65 9 = (ptr b39 2) := hd 9 (by decide)
   have e10 : v65 10 = u37 := hd 10 (by decide)
   have f_v65_5 : Ps (Or1 b39 (Old W.heap.size)) (Seq kB (dataL lr 60) (v65 5)) w66 := hd 5 (by decide)
   obtain ⟨a_v65_6, e6, f_v65_6⟩ := PgV.out (show Ps (Or1 b39 (Old W.heap.size)) (PgV ((pgD (dataL lr 60)).1) ((pgD (dataL lr 60)).2) (v65 6)) w66 from hd 6 (by decide))
   clear hd iv_ lo_ hi_
   refine wpL.flat ([(zf44 0), (zf44 1), u3, (zf44 3), (zf44 4), (zf44 5), (z 6), u16, u21, (sli b39 0 4 4), (eN 2)] ++ (zs zf44 11 19 ++ [(eN 2), (Value.bool (decide (2 < 4))), (z 32), (z 33), (v65 0), (sli b39 0 4 4), (eN 2), (ptr b39 2), u37, (v65 5), (Value.agg #[(eN ((pgD (dataL lr 60)).1)), a_v65_6]), (sli b39 0 4 4), (eN 2), (ptr b39 2), u37, (z 45), (z 46), (z 47)] ++ (us 15))) (by rw [e1, e2, e3, e4, e7, e8, e9, e10, e6] <;> rfl) ?_
   clear e1 e2 e3 e4 e7 e8 e9 e10 e6
   replace h1 := h1.step o67 (or1_mono no_any)
   replace h2 := h2.step o67 (or1_mono no_any)
   replace h3 := h3.step o67 (or1_mono no_any)
   replace f17 := f17.step o67 (or1_mono no_any)
   replace f22 := f22.step o67 (or1_mono no_any)
   replace f26 := f26.step o67 (or1_mono no_any)
   replace f30 := f30.step o67 (or1_mono no_any)
   replace f34 := f34.step o67 (or1_mono no_any)
   replace f38 := f38.step o67 (or1_mono no_any)
   replace a42 : Arr 22 b39 [u21, u33, u37, u3] w66 := hR
   clear hR
   replace oW := oW.tail o67 (tl_new g_oW_b39 tl_no)
   replace o45 := o45.tail o67 (tl_in in1 tl_no)
   refine wO (d_call (xl := [.tmp 44]) (al := [u37]) Try.func22 (by kernel_rfl) rfl rfl rfl (ref8Decode_ok (dataL lr 60) u37 _ (Ps.no f38) (by have := dataL_length lr 60; first | omega | (simp; done) | (simp; omega)))) ?_
   rintro _ w68 ⟨u70, rfl, f71, o69⟩
   replace f71 := f71.less (Y := (Or1 b39 (Old W.heap.size))) (or1_old a42.lt (old_old oW.size))
   replace h1 := h1.step0 o69
   replace h2 := h2.step0 o69
   replace h3 := h3.step0 o69
   replace f17 := f17.step0 o69
   replace f22 := f22.step0 o69
   replace f26 := f26.step0 o69
   replace f30 := f30.step0 o69
   replace f34 := f34.step0 o69
   replace f38 := f38.step0 o69
   replace f_v65_5 := f_v65_5.step0 o69
   replace f_v65_6 := f_v65_6.step0 o69
   replace a42 := a42.step0 o69
   replace oW := oW.tail0 o69
   replace o45 := o45.tail0 o69
   refine wF ([(zf44 0), (zf44 1), u3, (zf44 3), (zf44 4), (zf44 5), (z 6), u16, u21, (sli b39 0 4 4), (eN 2)] ++ (zs zf44 11 19 ++ [(eN 2), (Value.bool (decide (2 < 4))), (z 32), (z 33), (v65 0), (sli b39 0 4 4), (eN 2), (ptr b39 2), u37, (v65 5), (Value.agg #[(eN ((pgD (dataL lr 60)).1)), a_v65_6]), (sli b39 0 4 4), (eN 2), (ptr b39 2), u37, (Value.agg #[(eN ((pgD (dataL lr 60)).1)), u70]), (z 46), (z 47)] ++ (us 15))) ?_
   refine wO (d_call (xl := [.tmp 40, .tmp 45]) (al := [(Value.agg #[(eN ((pgD (dataL lr 60)).1)), a_v65_6]), (Value.agg #[(eN ((pgD (dataL lr 60)).1)), u70])]) Try.func20 (by kernel_rfl) rfl rfl rfl (l8same_ok ((pgD (dataL lr 60)).1) ((pgD (dataL lr 60)).2) a_v65_6 u70 _ (Ps.no f_v65_6) (Ps.no f71))) ?_
   rintro _ w72 ⟨rfl, o73⟩
   replace h1 := h1.step0 o73
   replace h2 := h2.step0 o73
   replace h3 := h3.step0 o73
   replace f17 := f17.step0 o73
   replace f22 := f22.step0 o73
   replace f26 := f26.step0 o73
   replace f30 := f30.step0 o73
   replace f34 := f34.step0 o73
   replace f38 := f38.step0 o73
   replace f_v65_5 := f_v65_5.step0 o73
   replace f_v65_6 := f_v65_6.step0 o73
   replace f71 := f71.step0 o73
   replace a42 := a42.step0 o73
   replace oW := oW.tail0 o73
   replace o45 := o45.tail0 o73
   refine wI (d_not rfl rfl) ?_
   refine wF ([(zf44 0), (zf44 1), u3, (zf44 3), (zf44 4), (zf44 5), (z 6), u16, u21, (sli b39 0 4 4), (eN 2)] ++ (zs zf44 11 19 ++ [(eN 2), (Value.bool (decide (2 < 4))), (z 32), (z 33), (v65 0), (sli b39 0 4 4), (eN 2), (ptr b39 2), u37, (v65 5), (Value.agg #[(eN ((pgD (dataL lr 60)).1)), a_v65_6]), (sli b39 0 4 4), (eN 2), (ptr b39 2), u37, (Value.agg #[(eN ((pgD (dataL lr 60)).1)), u70]), (Value.bool true), (Value.bool false)] ++ (us 15))) ?_
   refine wpL.done ?_
   refine then_n ?_
   refine cond_f rfl ?_
   refine wpIn_skip ?_
   refine inb_n (then_n ?_)
   refine plain ?_
   refine wI (d_move rfl) ?_
   refine wI (n_add (a := 2) (b := 1) rfl rfl (by omega)) ?_
   refine wI (d_assign rfl) ?_
   refine wF ([(zf44 0), (zf44 1), u3, (zf44 3), (zf44 4), (zf44 5), (z 6), u16, u21, (sli b39 0 4 4), (eN 3)] ++ (zs zf44 11 19 ++ [(eN 2), (Value.bool (decide (2 < 4))), (eN 2), (eN 3), (v65 0), (sli b39 0 4 4), (eN 2), (ptr b39 2), u37, (v65 5), (Value.agg #[(eN ((pgD (dataL lr 60)).1)), a_v65_6]), (sli b39 0 4 4), (eN 2), (ptr b39 2), u37, (Value.agg #[(eN ((pgD (dataL lr 60)).1)), u70]), (Value.bool true), (Value.bool false)] ++ (us 15))) ?_
   refine wpL.done ?_
   refine then_n ?_
   refine ⟨_, 3, rfl, rfl, ⟨?_, ?_, ?_⟩, ?_⟩
   ·
    (try dsimp only)
    all_goals (omega)
   ·
    exact o45
   ·
    exact a42
   ·
    (try dsimp only)
    all_goals (omega)
  obtain rfl : i = 3 := by omega
  refine wp_eq (l' := ([(zf44 0), (zf44 1), u3, (zf44 3), (zf44 4), (zf44 5), (z 6), u16, u21, (sli b39 0 4 4), (eN 3)] ++ (zs zf44 11 19 ++ [(eN 3), (Value.bool (decide (3 < 4)))] ++ (zs z 32 16 ++ (us 15))))) rfl ?_
  have hX0_ : ∀ k, (Or1 b39 (Old W.heap.size)) k → k < w46.heap.size := (lt_or1 a42.lt (fun k t => Nat.lt_of_lt_of_le t oW.size))
  have hO0_ : ∀ k, (Or1 b39 No) k → k < w46.heap.size := fun k h => hX0_ k ((or1_mono no_any) k h)
  refine drawnT (O := (Or1 b39 No)) (n := 14) 11 [0, 0, 0, 6, 14, 31, 63, 0, 0, 384, 896, 2047, 4095, 8191] [(0, 34), (1, 35), (2, 36), (3, 37), (4, 38), (5, 39), (6, 40), (7, 41), (8, 42), (9, 43), (10, 44), (11, 45), (12, 46), (13, 47)] [(0, 34), (1, 35), (2, 36), (3, 37), (4, 38), (5, 39), (6, 40), (7, 41), (8, 42), (9, 43), (10, 44)] [0, 1, 2, 3, 4, 5, 6, 7, 8, 9, 10] [] (fun i_ => ([RF.ar (Or1 b39 No) 5 0 (([] : List UInt8).map eB) w46.heap.size hO0_, RF.is (Or1 b39 No) (sli b39 0 4 4), RF.is (Or1 b39 No) (eN 3), RF.is (Or1 b39 No) (ptr b39 3), RF.is (Or1 b39 No) u3, RF.ps (Or1 b39 No) (Or1 b39 (Old W.heap.size)) (Seq kB lr) (or1_mono no_any), RF.ps (Or1 b39 No) (Or1 b39 (Old W.heap.size)) (PgV ((pgD lr).1) ((pgD lr).2)) (or1_mono no_any), RF.is (Or1 b39 No) (sli b39 0 4 4), RF.is (Or1 b39 No) (eN 3), RF.is (Or1 b39 No) (ptr b39 3), RF.is (Or1 b39 No) u3] : List (RF (Or1 b39 No))).getD i_ (RF.any (Or1 b39 No))) (fun _ w_ => Arr 22 b39 [u21, u33, u37, u3] w_) (fun v74 => ([(zf44 0), (zf44 1), u3, (zf44 3), (zf44 4), (zf44 5), (z 6), u16, u21, (sli b39 0 4 4), (eN 3)] ++ (zs zf44 11 19 ++ [(eN 3), (Value.bool (decide (3 < 4))), (z 32), (z 33), (v74 0), (v74 1), (v74 2), (v74 3), (v74 4), (v74 5), (v74 6), (v74 7), (v74 8), (v74 9), (v74 10), (v74 11), (v74 12), (v74 13)] ++ (us 15)))) (fun v74 => ([(zf44 0), (zf44 1), u3, (zf44 3), (zf44 4), (zf44 5), (z 6), u16, u21, (sli b39 0 4 4), (eN 3)] ++ (zs zf44 11 19 ++ [(eN 3), (Value.bool (decide (3 < 4))), (z 32), (z 33), (v74 0), (v74 1), (v74 2), (v74 3), (v74 4), (v74 5), (v74 6), (v74 7), (v74 8), (v74 9), (v74 10), (z 45), (z 46), (z 47)] ++ (us 15)))) s_mx (by kernel_rfl) rfl (by decide) (by rfl) (by kernel_rfl) (by kernel_rfl) (by kernel_rfl) (by rfl) (fun v_ => by kernel_rfl) (fun v_ => by kernel_rfl) (fun _ => fun w_ w2_ h ho => by have r_a42 := h; exact r_a42.step0 ho) a42 ?_ ?_ ?_
  ·
   refine ls_cons ?_ ?_
   ·
    intro v74 lo hi w_ k_ hO hd _ _ hk_ _ hR hold
    have r_a42 := hR
    clear hd hold
    refine ⟨_, rfl, gd rfl ?_⟩
    refine Does.mono (d_buildL (cs := []) Try.underlying22 s_ti5 rfl (nb rfl) parts_nil rfl) (fun u w' h => by obtain ⟨b_, rfl, hb_, hA_, hO_⟩ := h; exact ⟨⟨b_, rfl, hA_, Nat.le_trans hO.size hb_⟩, hO_⟩)
   refine ls_cons ?_ ?_
   ·
    intro v74 lo hi w_ k_ hO hd _ _ hk_ _ hR hold
    have r_a42 := hR
    clear hd hold
    refine ⟨_, rfl, gd rfl ?_⟩
    exact Does.is (d_move rfl)
   refine ls_cons ?_ ?_
   ·
    intro v74 lo hi w_ k_ hO hd _ _ hk_ _ hR hold
    have r_a42 := hR
    clear hd hold
    refine ⟨_, rfl, gd rfl ?_⟩
    exact Does.is (d_move rfl)
   refine ls_cons ?_ ?_
   ·
    intro v74 lo hi w_ k_ hO hd _ _ hk_ _ hR hold
    have r_a42 := hR
    have e1 : v74 1 = (sli b39 0 4 4) := hd 1 (by kernel_rfl)
    have e2 : v74 2 = (eN 3) := hd 2 (by kernel_rfl)
    clear hd hold
    refine ⟨_, rfl, gd rfl ?_⟩
    exact Does.is (d_index1 (n := 4) (i := 3) Try.underlying29 s_ti22 e1 (show _ = Value.int _ ((3 : Nat) : Int) from e2) (by omega))
   refine ls_cons ?_ ?_
   ·
    intro v74 lo hi w_ k_ hO hd _ _ hk_ _ hR hold
    have r_a42 := hR
    have e3 : v74 3 = (ptr b39 3) := hd 3 (by kernel_rfl)
    clear hd hold
    refine ⟨_, rfl, gd rfl ?_⟩
    exact Does.is (d_load (v := u3) ⟨_, Try.underlying22, rfl⟩ e3 r_a42 rfl)
   refine ls_cons ?_ ?_
   ·
    intro v74 lo hi w_ k_ hO hd _ _ hk_ _ hR hold
    have r_a42 := hR
    obtain ⟨mb0, me0, ma0, mf0⟩ : ∃ b, v74 0 = sli b 0 0 0 ∧ Arr 5 b (([] : List UInt8).map eB) w_ ∧ w46.heap.size ≤ b := hd 0 (by kernel_rfl)
    have e4 : v74 4 = u3 := hd 4 (by kernel_rfl)
    clear hd hold
    refine ⟨_, rfl, gd rfl ?_⟩
    refine Does.mono (R := AppFull 5 eB mb0 (lr) w_) ?_ (fun u w' h => by obtain ⟨bo_, h1_, h2_, h3_⟩ := h; exact ⟨h1_.seq (not_of_lt hX0_ (fresh_of h2_ mf0 hO.size)), h3_⟩)
    exact d_append_full (xs := ([] : List UInt8)) (ys := lr) Try.underlying22 Try.underlying22 s_ti5 rfl me0 e4 ma0 (by simp) (SrcV.of_seq (h3.step hO (or1_mono no_any)) (fun _ => rfl)) (by simp only [List.length_nil]; omega) (by simp only [List.length_nil]; omega) rfl
   refine ls_cons ?_ ?_
   ·
    intro v74 lo hi w_ k_ hO hd _ _ hk_ _ hR hold
    have r_a42 := hR
    have d5 : Ps (Or1 b39 (Old W.heap.size)) (Seq kB lr (v74 5)) w_ := hd 5 (by kernel_rfl)
    clear hd hold
    refine ⟨_, rfl, gd rfl ?_⟩
    refine Does.mono (R := RPg ((pgD lr).1) ((pgD lr).2) w_) ?_ (fun u w' h => by obtain ⟨a_, ea_, hp_, ho_⟩ := h; exact ⟨(PgV.mk ea_ hp_).less (or1_old r_a42.lt (old_old (Nat.le_trans oW.size hO.size))), ho_⟩)
    exact d_call (xl := [.tmp 39]) (al := [(v74 5)]) Try.func21 (by kernel_rfl) rfl rfl rfl (pageDecode_ok lr (v74 5) _ (Ps.no d5) (by first | omega | (simp; done) | (simp; omega)))
   refine ls_cons ?_ ?_
   ·
    intro v74 lo hi w_ k_ hO hd _ _ hk_ _ hR hold
    have r_a42 := hR
    clear hd hold
    refine ⟨_, rfl, gd rfl ?_⟩
    exact Does.is (d_move rfl)
   refine ls_cons ?_ ?_
   ·
    intro v74 lo hi w_ k_ hO hd _ _ hk_ _ hR hold
    have r_a42 := hR
    clear hd hold
    refine ⟨_, rfl, gd rfl ?_⟩
    exact Does.is (d_move rfl)
   refine ls_cons ?_ ?_
   ·
    intro v74 lo hi w_ k_ hO hd _ _ hk_ _ hR hold
    have r_a42 := hR
    have e7 : v74 7 = (sli b39 0 4 4) := hd 7 (by kernel_rfl)
    have e8 : v74 8 = (eN 3) := hd 8 (by kernel_rfl)
    clear hd hold
    refine ⟨_, rfl, gd rfl ?_⟩
    exact Does.is (d_index1 (n := 4) (i := 3) Try.underlying29 s_ti22 e7 (show _ = Value.int _ ((3 : Nat) : Int) from e8) (by omega))
   refine ls_cons ?_ ?_
   ·
    intro v74 lo hi w_ k_ hO hd _ _ hk_ _ hR hold
    have r_a42 := hR
    have e9 : v74 9 = (ptr b39 3) := hd 9 (by kernel_rfl)
    clear hd hold
    refine ⟨_, rfl, gd rfl ?_⟩
    exact Does.is (d_load (v := u3) ⟨_, Try.underlying22, rfl⟩ e9 r_a42 rfl)
   exact ls_nil
  ·
   exact ms_nil
  intro v74 lo_ hi_ w75 o76 hd iv_ hR
  have e1 : v74 1 = (sli b39 0 4 4) := hd 1 (by decide)
  have e2 : v74 2 = (eN 3) := hd 2 (by decide)
  have e3 : v74 3 = (ptr b39 3) := hd 3 (by decide)
  have e4 : v74 4 = u3 := hd 4 (by decide)
  have e7 : v74 7 = (sli b39 0 4 4) := hd 7 (by decide)
  have e8 : v74 8 = (eN 3) := hd 8 (by decide)
  have e9 : v74 9 = (ptr b39 3) := hd 9 (by decide)
  have e10 : v74 10 = u3 := hd 10 (by decide)
  have f_v74_5 : Ps (Or1 b39 (Old W.heap.size)) (Seq kB lr (v74 5)) w75 := hd 5 (by decide)
  obtain ⟨a_v74_6, e6, f_v74_6⟩ := PgV.out (show Ps (Or1 b39 (Old W.heap.size)) (PgV ((pgD lr).1) ((pgD lr).2) (v74 6)) w75 from hd 6 (by decide))
  clear hd iv_ lo_ hi_
  refine wpL.flat ([(zf44 0), (zf44 1), u3, (zf44 3), (zf44 4), (zf44 5), (z 6), u16, u21, (sli b39 0 4 4), (eN 3)] ++ (zs zf44 11 19 ++ [(eN 3), (Value.bool (decide (3 < 4))), (z 32), (z 33), (v74 0), (sli b39 0 4 4), (eN 3), (ptr b39 3), u3, (v74 5), (Value.agg #[(eN ((pgD lr).1)), a_v74_6]), (sli b39 0 4 4), (eN 3), (ptr b39 3), u3, (z 45), (z 46), (z 47)] ++ (us 15))) (by rw [e1, e2, e3, e4, e7, e8, e9, e10, e6] <;> rfl) ?_
  clear e1 e2 e3 e4 e7 e8 e9 e10 e6
  replace h1 := h1.step o76 (or1_mono no_any)
  replace h2 := h2.step o76 (or1_mono no_any)
  replace h3 := h3.step o76 (or1_mono no_any)
  replace f17 := f17.step o76 (or1_mono no_any)
  replace f22 := f22.step o76 (or1_mono no_any)
  replace f26 := f26.step o76 (or1_mono no_any)
  replace f30 := f30.step o76 (or1_mono no_any)
  replace f34 := f34.step o76 (or1_mono no_any)
  replace f38 := f38.step o76 (or1_mono no_any)
  replace a42 : Arr 22 b39 [u21, u33, u37, u3] w75 := hR
  clear hR
  replace oW := oW.tail o76 (tl_new g_oW_b39 tl_no)
  replace o45 := o45.tail o76 (tl_in in1 tl_no)
  refine wO (d_call (xl := [.tmp 44]) (al := [u3]) Try.func22 (by kernel_rfl) rfl rfl rfl (ref8Decode_ok lr u3 _ (Ps.no h3) (by first | omega | (simp; done) | (simp; omega)))) ?_
  rintro _ w77 ⟨u79, rfl, f80, o78⟩
  replace f80 := f80.less (Y := (Or1 b39 (Old W.heap.size))) (or1_old a42.lt (old_old oW.size))
  replace h1 := h1.step0 o78
  replace h2 := h2.step0 o78
  replace h3 := h3.step0 o78
  replace f17 := f17.step0 o78
  replace f22 := f22.step0 o78
  replace f26 := f26.step0 o78
  replace f30 := f30.step0 o78
  replace f34 := f34.step0 o78
  replace f38 := f38.step0 o78
  replace f_v74_5 := f_v74_5.step0 o78
  replace f_v74_6 := f_v74_6.step0 o78
  replace a42 := a42.step0 o78
  replace oW := oW.tail0 o78
  replace o45 := o45.tail0 o78
  refine wF ([(zf44 0), (zf44 1), u3, (zf44 3), (zf44 4), (zf44 5), (z 6), u16, u21, (sli b39 0 4 4), (eN 3)] ++ (zs zf44 11 19 ++ [(eN 3), (Value.bool (decide (3 < 4))), (z 32), (z 33), (v74 0), (sli b39 0 4 4), (eN 3), (ptr b39 3), u3, (v74 5), (Value.agg #[(eN ((pgD lr).1)), a_v74_6]), (sli b39 0 4 4), (eN 3), (ptr b39 3), u3, (Value.agg #[(eN ((pgD lr).1)), u79]), (z 46), (z 47)] ++ (us 15))) ?_
  refine wO (d_call (xl := [.tmp 40, .tmp 45]) (al := [(Value.agg #[(eN ((pgD lr).1)), a_v74_6]), (Value.agg #[(eN ((pgD lr).1)), u79])]) Try.func20 (by kernel_rfl) rfl rfl rfl (l8same_ok ((pgD lr).1) ((pgD lr).2) a_v74_6 u79 _ (Ps.no f_v74_6) (Ps.no f80))) ?_
  rintro _ w81 ⟨rfl, o82⟩
  replace h1 := h1.step0 o82
  replace h2 := h2.step0 o82
  replace h3 := h3.step0 o82
  replace f17 := f17.step0 o82
  replace f22 := f22.step0 o82
  replace f26 := f26.step0 o82
  replace f30 := f30.step0 o82
  replace f34 := f34.step0 o82
  replace f38 := f38.step0 o82
  replace f_v74_5 := f_v74_5.step0 o82
  replace f_v74_6 := f_v74_6.step0 o82
  replace f80 := f80.step0 o82
  replace a42 := a42.step0 o82
  replace oW := oW.tail0 o82
  replace o45 := o45.tail0 o82
  refine wI (d_not rfl rfl) ?_
  refine wF ([(zf44 0), (zf44 1), u3, (zf44 3), (zf44 4), (zf44 5), (z 6), u16, u21, (sli b39 0 4 4), (eN 3)] ++ (zs zf44 11 19 ++ [(eN 3), (Value.bool (decide (3 < 4))), (z 32), (z 33), (v74 0), (sli b39 0 4 4), (eN 3), (ptr b39 3), u3, (v74 5), (Value.agg #[(eN ((pgD lr).1)), a_v74_6]), (sli b39 0 4 4), (eN 3), (ptr b39 3), u3, (Value.agg #[(eN ((pgD lr).1)), u79]), (Value.bool true), (Value.bool false)] ++ (us 15))) ?_
  refine wpL.done ?_
  refine then_n ?_
  refine cond_f rfl ?_
  refine wpIn_skip ?_
  refine inb_n (then_n ?_)
  refine plain ?_
  refine wI (d_move rfl) ?_
  refine wI (n_add (a := 3) (b := 1) rfl rfl (by omega)) ?_
  refine wI (d_assign rfl) ?_
  refine wF ([(zf44 0), (zf44 1), u3, (zf44 3), (zf44 4), (zf44 5), (z 6), u16, u21, (sli b39 0 4 4), (eN 4)] ++ (zs zf44 11 19 ++ [(eN 3), (Value.bool (decide (3 < 4))), (eN 3), (eN 4), (v74 0), (sli b39 0 4 4), (eN 3), (ptr b39 3), u3, (v74 5), (Value.agg #[(eN ((pgD lr).1)), a_v74_6]), (sli b39 0 4 4), (eN 3), (ptr b39 3), u3, (Value.agg #[(eN ((pgD lr).1)), u79]), (Value.bool true), (Value.bool false)] ++ (us 15))) ?_
  refine wpL.done ?_
  refine then_n ?_
  refine ⟨_, 4, rfl, rfl, ⟨?_, ?_, ?_⟩, ?_⟩
  ·
   (try dsimp only)
   all_goals (omega)
  ·
   exact o45
  ·
   exact a42
  ·
   (try dsimp only)
   all_goals (omega)
 refine wpIn_exit ?_
 refine then_x (then_x (inb_e ?_))
 refine then_n ?_
 refine wpIn_seq ?_
 refine drawn' (O := (Or1 b39 No)) (n := 16) [0, 1, 0, 4, 12, 31, 63, 127, 255, 511, 127, 1535, 3583, 8191, 16383, 32767] [(0, 48), (1, 49), (2, 50), (3, 51), (4, 52), (5, 53), (6, 54), (7, 55), (8, 56), (9, 57), (10, 58), (11, 59), (12, 60), (13, 61), (14, 62), (15, 6)] [0, 1, 2, 3, 4, 5, 6, 7, 8, 9, 10, 11, 12, 13, 14, 15] [] (fun i_ => ([RF.is (Or1 b39 No) u21, RF.is (Or1 b39 No) (Value.string (strOf (pgE (dataL la 48)))), RF.is (Or1 b39 No) u16, RF.ps (Or1 b39 No) (Or1 b39 (Old W.heap.size)) (Seq kB (pgE (dataL la 48))) (or1_mono no_any), RF.is (Or1 b39 No) (Value.string (strOf (pgE (dataL la 48)))), RF.is (Or1 b39 No) (Value.bool true), RF.is (Or1 b39 No) (Value.bool true), RF.is (Or1 b39 No) u3, RF.ps (Or1 b39 No) (Or1 b39 (Old W.heap.size)) (Seq kB (pgE lr)) (or1_mono no_any), RF.is (Or1 b39 No) (Value.string (strOf (pgE lr))), RF.is (Or1 b39 No) u3, RF.ps (Or1 b39 No) (Or1 b39 (Old W.heap.size)) (Seq kB (pgE lr)) (or1_mono no_any), RF.is (Or1 b39 No) (Value.string (strOf (pgE lr))), RF.is (Or1 b39 No) (Value.bool true), RF.is (Or1 b39 No) (Value.bool true), RF.is (Or1 b39 No) (Value.bool true)] : List (RF (Or1 b39 No))).getD i_ (RF.any (Or1 b39 No))) (fun _ w_ => Arr 22 b39 [u21, u33, u37, u3] w_) (fun v83 => ([(zf44 0), (zf44 1), u3, (zf44 3), (zf44 4), (zf44 5), (v83 15), u16, u21, (sli b39 0 4 4), (eN i)] ++ (zs zf44 11 19 ++ [(eN i), (Value.bool (decide (i < 4)))] ++ (zs z 32 16 ++ [(v83 0), (v83 1), (v83 2), (v83 3), (v83 4), (v83 5), (v83 6), (v83 7), (v83 8), (v83 9), (v83 10), (v83 11), (v83 12), (v83 13), (v83 14)])))) s_mx (by kernel_rfl) rfl (by kernel_rfl) (by rfl) (fun v_ => by kernel_rfl) (fun _ => fun w_ w2_ h ho => by have r_a42 := h; exact r_a42.step0 ho) a42 ?_ ?_ ?_
 ·
  refine ls_cons ?_ ?_
  ·
   intro v83 lo hi w_ k_ hO hd _ _ hk_ _ hR hold
   have r_a42 := hR
   clear hd hold
   refine ⟨_, rfl, gd rfl ?_⟩
   exact Does.is (d_move rfl)
  refine ls_cons ?_ ?_
  ·
   intro v83 lo hi w_ k_ hO hd _ _ hk_ _ hR hold
   have r_a42 := hR
   have e0 : v83 0 = u21 := hd 0 (by kernel_rfl)
   clear hd hold
   refine ⟨_, rfl, gd rfl ?_⟩
   exact Does.is (d_str Try.underlying22 Try.underlying5 Try.underlying9 e0 (f22.step hO (or1_mono no_any)))
  refine ls_cons ?_ ?_
  ·
   intro v83 lo hi w_ k_ hO hd _ _ hk_ _ hR hold
   have r_a42 := hR
   clear hd hold
   refine ⟨_, rfl, gd rfl ?_⟩
   exact Does.is (d_move rfl)
  refine ls_cons ?_ ?_
  ·
   intro v83 lo hi w_ k_ hO hd _ _ hk_ _ hR hold
   have r_a42 := hR
   have e2 : v83 2 = u16 := hd 2 (by kernel_rfl)
   clear hd hold
   refine ⟨_, rfl, gd rfl ?_⟩
   refine Does.mono (R := ROw 5 eB (pgE (dataL la 48)) w_) ?_ (fun u w' h => ⟨(h.ps).1.less (or1_old r_a42.lt (old_old (Nat.le_trans oW.size hO.size))), (h.ps).2⟩)
   exact d_call (xl := [.tmp 50]) (al := [u16]) Try.func18 (by kernel_rfl) rfl (show ([(v83 2)] : List Value) = [u16] from by rw [e2]) rfl (ref8Encode_ok (dataL la 48) u16 _ (Ps.no (f17.step hO (or1_mono no_any))) (by have := dataL_length la 48; first | omega | (simp; done) | (simp; omega)))
  refine ls_cons ?_ ?_
  ·
   intro v83 lo hi w_ k_ hO hd _ _ hk_ _ hR hold
   have r_a42 := hR
   have d3 : Ps (Or1 b39 (Old W.heap.size)) (Seq kB (pgE (dataL la 48)) (v83 3)) w_ := hd 3 (by kernel_rfl)
   clear hd hold
   refine ⟨_, rfl, gd rfl ?_⟩
   exact Does.is (d_str Try.underlying22 Try.underlying5 Try.underlying9 rfl d3)
  refine ls_cons ?_ ?_
  ·
   intro v83 lo hi w_ k_ hO hd _ _ hk_ _ hR hold
   have r_a42 := hR
   have e1 : v83 1 = (Value.string (strOf (pgE (dataL la 48)))) := hd 1 (by kernel_rfl)
   have e4 : v83 4 = (Value.string (strOf (pgE (dataL la 48)))) := hd 4 (by kernel_rfl)
   clear hd hold
   refine ⟨_, rfl, gd rfl ?_⟩
   exact Does.is (d_seql (a := (pgE (dataL la 48))) (c := (pgE (dataL la 48))) e1 e4 (decide_eq_true rfl))
  refine ls_cons ?_ ?_
  ·
   intro v83 lo hi w_ k_ hO hd _ _ hk_ _ hR hold
   have r_a42 := hR
   have e5 : v83 5 = (Value.bool true) := hd 5 (by kernel_rfl)
   clear hd hold
   refine ⟨_, rfl, gd rfl ?_⟩
   exact Does.is (d_move (v := (Value.bool true)) e5)
  refine ls_cons ?_ ?_
  ·
   intro v83 lo hi w_ k_ hO hd _ _ hk_ _ hR hold
   have r_a42 := hR
   have e6 : v83 6 = (Value.bool true) := hd 6 (by kernel_rfl)
   clear hd hold
   refine ⟨_, rfl, gd_on rfl rfl rfl (nb rfl) e6 ?_⟩
   exact Does.is (d_move rfl)
  refine ls_cons ?_ ?_
  ·
   intro v83 lo hi w_ k_ hO hd _ _ hk_ _ hR hold
   have r_a42 := hR
   have e6 : v83 6 = (Value.bool true) := hd 6 (by kernel_rfl)
   have e7 : v83 7 = u3 := hd 7 (by kernel_rfl)
   clear hd hold
   refine ⟨_, rfl, gd_on rfl rfl rfl (nb rfl) e6 ?_⟩
   refine Does.mono (R := ROw 5 eB (pgE lr) w_) ?_ (fun u w' h => ⟨(h.ps).1.less (or1_old r_a42.lt (old_old (Nat.le_trans oW.size hO.size))), (h.ps).2⟩)
   exact d_call (xl := [.tmp 55]) (al := [u3]) Try.func16 (by kernel_rfl) rfl (show ([(v83 7)] : List Value) = [u3] from by rw [e7]) rfl (pageEncode_ok lr u3 _ (Ps.no (h3.step hO (or1_mono no_any))) (by first | omega | (simp; done) | (simp; omega)))
  refine ls_cons ?_ ?_
  ·
   intro v83 lo hi w_ k_ hO hd _ _ hk_ _ hR hold
   have r_a42 := hR
   have e6 : v83 6 = (Value.bool true) := hd 6 (by kernel_rfl)
   have d8 : Ps (Or1 b39 (Old W.heap.size)) (Seq kB (pgE lr) (v83 8)) w_ := hd 8 (by kernel_rfl)
   clear hd hold
   refine ⟨_, rfl, gd_on rfl rfl rfl (nb rfl) e6 ?_⟩
   exact Does.is (d_str Try.underlying22 Try.underlying5 Try.underlying9 rfl d8)
  refine ls_cons ?_ ?_
  ·
   intro v83 lo hi w_ k_ hO hd _ _ hk_ _ hR hold
   have r_a42 := hR
   have e6 : v83 6 = (Value.bool true) := hd 6 (by kernel_rfl)
   clear hd hold
   refine ⟨_, rfl, gd_on rfl rfl rfl (nb rfl) e6 ?_⟩
   exact Does.is (d_move rfl)
  refine ls_cons ?_ ?_
  ·
   intro v83 lo hi w_ k_ hO hd _ _ hk_ _ hR hold
   have r_a42 := hR
   have e10 : v83 10 = u3 := hd 10 (by kernel_rfl)
   have e6 : v83 6 = (Value.bool true) := hd 6 (by kernel_rfl)
   clear hd hold
   refine ⟨_, rfl, gd_on rfl rfl rfl (nb rfl) e6 ?_⟩
   refine Does.mono (R := ROw 5 eB (pgE lr) w_) ?_ (fun u w' h => ⟨(h.ps).1.less (or1_old r_a42.lt (old_old (Nat.le_trans oW.size hO.size))), (h.ps).2⟩)
   exact d_call (xl := [.tmp 58]) (al := [u3]) Try.func18 (by kernel_rfl) rfl (show ([(v83 10)] : List Value) = [u3] from by rw [e10]) rfl (ref8Encode_ok lr u3 _ (Ps.no (h3.step hO (or1_mono no_any))) (by first | omega | (simp; done) | (simp; omega)))
  refine ls_cons ?_ ?_
  ·
   intro v83 lo hi w_ k_ hO hd _ _ hk_ _ hR hold
   have r_a42 := hR
   have d11 : Ps (Or1 b39 (Old W.heap.size)) (Seq kB (pgE lr) (v83 11)) w_ := hd 11 (by kernel_rfl)
   have e6 : v83 6 = (Value.bool true) := hd 6 (by kernel_rfl)
   clear hd hold
   refine ⟨_, rfl, gd_on rfl rfl rfl (nb rfl) e6 ?_⟩
   exact Does.is (d_str Try.underlying22 Try.underlying5 Try.underlying9 rfl d11)
  refine ls_cons ?_ ?_
  ·
   intro v83 lo hi w_ k_ hO hd _ _ hk_ _ hR hold
   have r_a42 := hR
   have e12 : v83 12 = (Value.string (strOf (pgE lr))) := hd 12 (by kernel_rfl)
   have e6 : v83 6 = (Value.bool true) := hd 6 (by kernel_rfl)
   have e9 : v83 9 = (Value.string (strOf (pgE lr))) := hd 9 (by kernel_rfl)
   clear hd hold
   refine ⟨_, rfl, gd_on rfl rfl rfl (nb rfl) e6 ?_⟩
   exact Does.is (d_seql (a := (pgE lr)) (c := (pgE lr)) e9 e12 (decide_eq_true rfl))
  refine ls_cons ?_ ?_
  ·
   intro v83 lo hi w_ k_ hO hd _ _ hk_ _ hR hold
   have r_a42 := hR
   have e13 : v83 13 = (Value.bool true) := hd 13 (by kernel_rfl)
   have e6 : v83 6 = (Value.bool true) := hd 6 (by kernel_rfl)
   clear hd hold
   refine ⟨_, rfl, gd rfl ?_⟩
   exact Does.is (d_pick (b := true) (v := (Value.bool true)) e6 e13)
  refine ls_cons ?_ ?_
  ·
   intro v83 lo hi w_ k_ hO hd _ _ hk_ _ hR hold
   have r_a42 := hR
   have e14 : v83 14 = (Value.bool true) := hd 14 (by kernel_rfl)
   clear hd hold
   refine ⟨_, rfl, gd rfl ?_⟩
   exact Does.is (d_assign (v := (Value.bool true)) e14)
  exact ls_nil
 ·
  exact ms_nil
 intro v83 lo_ hi_ w84 o85 hd iv_ hR
 have e0 : v83 0 = u21 := hd 0 (by decide)
 have e1 : v83 1 = (Value.string (strOf (pgE (dataL la 48)))) := hd 1 (by decide)
 have e2 : v83 2 = u16 := hd 2 (by decide)
 have e4 : v83 4 = (Value.string (strOf (pgE (dataL la 48)))) := hd 4 (by decide)
 have e5 : v83 5 = (Value.bool true) := hd 5 (by decide)
 have e6 : v83 6 = (Value.bool true) := hd 6 (by decide)
 have e7 : v83 7 = u3 := hd 7 (by decide)
 have e9 : v83 9 = (Value.string (strOf (pgE lr))) := hd 9 (by decide)
 have e10 : v83 10 = u3 := hd 10 (by decide)
 have e12 : v83 12 = (Value.string (strOf (pgE lr))) := hd 12 (by decide)
 have e13 : v83 13 = (Value.bool true) := hd 13 (by decide)
 have e14 : v83 14 = (Value.bool true) := hd 14 (by decide)
 have e15 : v83 15 = (Value.bool true) := hd 15 (by decide)
 have f_v83_3 : Ps (Or1 b39 (Old W.heap.size)) (Seq kB (pgE (dataL la 48)) (v83 3)) w84 := hd 3 (by decide)
 have f_v83_8 : Ps (Or1 b39 (Old W.heap.size)) (Seq kB (pgE lr) (v83 8)) w84 := hd 8 (by decide)
 have f_v83_11 : Ps (Or1 b39 (Old W.heap.size)) (Seq kB (pgE lr) (v83 11)) w84 := hd 11 (by decide)
 clear hd iv_ lo_ hi_
 refine fr_eq (l' := ([(zf44 0), (zf44 1), u3, (zf44 3), (zf44 4), (zf44 5), (Value.bool true), u16, u21, (sli b39 0 4 4), (eN i)] ++ (zs zf44 11 19 ++ [(eN i), (Value.bool (decide (i < 4)))] ++ (zs z 32 16 ++ [u21, (Value.string (strOf (pgE (dataL la 48)))), u16, (v83 3), (Value.string (strOf (pgE (dataL la 48)))), (Value.bool true), (Value.bool true), u3, (v83 8), (Value.string (strOf (pgE lr))), u3, (v83 11), (Value.string (strOf (pgE lr))), (Value.bool true), (Value.bool true)])))) (by rw [e0, e1, e2, e4, e5, e6, e7, e9, e10, e12, e13, e14, e15] <;> rfl) ?_
 clear e0 e1 e2 e4 e5 e6 e7 e9 e10 e12 e13 e14 e15
 replace h1 := h1.step o85 (or1_mono no_any)
 replace h2 := h2.step o85 (or1_mono no_any)
 replace h3 := h3.step o85 (or1_mono no_any)
 replace f17 := f17.step o85 (or1_mono no_any)
 replace f22 := f22.step o85 (or1_mono no_any)
 replace f26 := f26.step o85 (or1_mono no_any)
 replace f30 := f30.step o85 (or1_mono no_any)
 replace f34 := f34.step o85 (or1_mono no_any)
 replace f38 := f38.step o85 (or1_mono no_any)
 replace a42 : Arr 22 b39 [u21, u33, u37, u3] w84 := hR
 clear hR
 replace oW := oW.tail o85 (tl_new g_oW_b39 tl_no)
 replace o45 := o45.tail o85 (tl_in in1 tl_no)
 refine then_n ?_
 refine forget (fun zf86 => (zs zf86 0 6 ++ [(Value.bool true), (zf86 7), (zf86 8), (zf86 9), (eN i)] ++ (zs zf86 11 52))) (by kernel_rfl) (fun zf86 => ?_)
 refine wpIn_ret ?_
 refine leave0 (v := (Value.bool true)) (res1 Try.results3 rfl) ?_
 exact ⟨rfl, oW⟩

end Go.Proofs.YtgalehapmdabeaaF
