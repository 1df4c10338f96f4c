import Derived.Test.YtgalehapmdabeaaFz
import Derived.Test.YtgalehapmdabeaaTy
import Derived.Test.YtgalehapmdabeaaHpgu
set_option linter.unusedVariables false
set_option linter.unusedSimpArgs false
namespace Go.Proofs.YtgalehapmdabeaaF
open Go Go.Shelf Go.Proofs.YtgalehapmdabeaaS Ram
set_option maxRecDepth 20000 in
set_option maxHeartbeats 4000000 in
theorem pageMarker_law (la : List UInt8) (lb : List UInt8) (u1 : Value) (u2 : Value) (W : World) (h1 : Ps No (Seq kB la u1) W) (h2 : Ps No (Seq kB lb u2) W) (g1 : la.length ≤ 140737488351232) (g2 : lb.length ≤ 140737488351232) :
    CW Try.prog 7 #[u1, u2] W (Rt (RIs (.bool true) W)) := by
 have oW : Only No W W := Only.refl _ _
 refine enter (al := [u1, u2]) (k := 57) (l := ([u1, u2] ++ (us 57))) Try.func7 rfl Try.ntmps7 rfl rfl ?_
 refine wpIn_seq ?_
 refine plain ?_
 refine wI (d_assign rfl) ?_
 refine wF ([u1, u2, undef, undef, (Value.bool false)] ++ (us 54)) ?_
 refine wpL.done ?_
 refine then_n ?_
 refine wpIn_seq ?_
 refine wpIn_seq ?_
 refine plain ?_
 refine wO (d_call (xl := []) (al := []) Try.func14 (by kernel_rfl) rfl rfl rfl (l8known_ok _)) ?_
 rintro _ w11 ⟨rfl, o12⟩
 replace h1 := h1.step0 o12
 replace h2 := h2.step0 o12
 replace oW := oW.tail0 o12
 refine wI (d_not rfl rfl) ?_
 refine wF ([u1, u2, undef, undef, (Value.bool false), undef, undef, undef, undef, (Value.bool true), (Value.bool false)] ++ (us 48)) ?_
 refine wpL.done ?_
 refine then_n ?_
 refine cond_f rfl ?_
 refine wpIn_skip ?_
 refine then_n ?_
 refine wpIn_seq ?_
 refine plain ?_
 refine wI (d_move rfl) ?_
 refine wO (d_call (xl := [.tmp 11, .const (.int .i64 48)]) (al := [u1, (eN 48)]) Try.func15 (by kernel_rfl) rfl rfl rfl (l4Data_ok la 48 u1 _ (Ps.no h1) (by omega))) ?_
 rintro u15 w13 f16
 replace f16 := f16.ps
 obtain ⟨f16, o14⟩ := f16
 replace f16 := f16.less (Y := (Old W.heap.size)) (old_old oW.size)
 replace h1 := h1.step0 o14
 replace h2 := h2.step0 o14
 replace oW := oW.tail0 o14
 refine wO (d_call (xl := [.tmp 12]) (al := [u15]) Try.func16 (by kernel_rfl) rfl rfl rfl (pageEncode_ok (dataL la 48) u15 _ (Ps.no f16) (by have := dataL_length la 48; first | omega | (simp; done) | (simp; omega)))) ?_
 rintro u19 w17 f20
 replace f20 := f20.ps
 obtain ⟨f20, o18⟩ := f20
 replace f20 := f20.less (Y := (Old W.heap.size)) (old_old oW.size)
 replace h1 := h1.step0 o18
 replace h2 := h2.step0 o18
 replace f16 := f16.step0 o18
 replace oW := oW.tail0 o18
 refine wF ([u1, u2, undef, undef, (Value.bool false), undef, undef, undef, undef, (Value.bool true), (Value.bool false), u1, u15, u19] ++ (us 45)) ?_
 refine wI (d_assign rfl) ?_
 refine wF ([u1, u2, undef, undef, (Value.bool false), u19, undef, undef, undef, (Value.bool true), (Value.bool false), u1, u15, u19] ++ (us 45)) ?_
 refine wpL.done ?_
 have hw_ := pgE_length (dataL_length la 48)
 refine then_n ?_
 refine wpIn_seq ?_
 refine wpIn_seq ?_
 refine drawn' (O := No) (n := 11) [0, 1, 3, 7, 15, 31, 63, 15, 143, 511, 1023] [(0, 14), (1, 15), (2, 16), (3, 17), (4, 18), (5, 19), (6, 20), (7, 21), (8, 22), (9, 23), (10, 24)] [0, 1, 2, 3, 4, 5, 6, 7, 8, 9, 10] [] (fun i_ => ([RF.is No u19, RF.is No (eN ((pgE (dataL la 48)).length)), RF.is No (Value.bool false), RF.is No (Value.bool false), RF.is No u19, RF.ps No (Old W.heap.size) (Seq kB ((pgE (dataL la 48)).take 4)) no_any, RF.is No (Value.string (strOf ((pgE (dataL la 48)).take 4))), RF.ps No (Old W.heap.size) (Seq kB (List.replicate 4 0)) no_any, RF.is No (Value.string (strOf (List.replicate 4 0))), RF.is No (Value.bool false), RF.is No (Value.bool false)] : List (RF No)).getD i_ (RF.any No)) (fun _ w_ => True) (fun v21 => ([u1, u2, undef, undef, (Value.bool false), u19, undef, undef, undef, (Value.bool true), (Value.bool false), u1, u15, u19, (v21 0), (v21 1), (v21 2), (v21 3), (v21 4), (v21 5), (v21 6), (v21 7), (v21 8), (v21 9), (v21 10)] ++ (us 34))) s_mx (by kernel_rfl) rfl (by kernel_rfl) (by rfl) (fun v_ => by kernel_rfl) (fun _ => fun _ _ _ _ => trivial) trivial ?_ ?_ ?_
 ·
  refine ls_cons ?_ ?_
  ·
   intro v21 lo hi w_ k_ hO hd _ _ hk_ _ hR hold
   clear hd hold
   refine ⟨_, rfl, gd rfl ?_⟩
   exact Does.is (d_move rfl)
  refine ls_cons ?_ ?_
  ·
   intro v21 lo hi w_ k_ hO hd _ _ hk_ _ hR hold
   have e0 : v21 0 = u19 := hd 0 (by kernel_rfl)
   clear hd hold
   refine ⟨_, rfl, gd rfl ?_⟩
   exact Does.is (d_lenS rfl Try.underlying22 e0 (f20.step hO no_any))
  refine ls_cons ?_ ?_
  ·
   intro v21 lo hi w_ k_ hO hd _ _ hk_ _ hR hold
   have e1 : v21 1 = (eN ((pgE (dataL la 48)).length)) := hd 1 (by kernel_rfl)
   clear hd hold
   refine ⟨_, rfl, gd rfl ?_⟩
   exact Does.is (n_neq (a := ((pgE (dataL la 48)).length)) (b := 60) e1 rfl (by rw [decide_eq_true (pgE_length (dataL_length la 48))] <;> rfl))
  refine ls_cons ?_ ?_
  ·
   intro v21 lo hi w_ k_ hO hd _ _ hk_ _ hR hold
   have e2 : v21 2 = (Value.bool false) := hd 2 (by kernel_rfl)
   clear hd hold
   refine ⟨_, rfl, gd rfl ?_⟩
   exact Does.is (d_move (v := (Value.bool false)) e2)
  refine ls_cons ?_ ?_
  ·
   intro v21 lo hi w_ k_ hO hd _ _ hk_ _ hR hold
   have e3 : v21 3 = (Value.bool false) := hd 3 (by kernel_rfl)
   clear hd hold
   refine ⟨_, rfl, gd_on rfl rfl rfl (nb rfl) e3 ?_⟩
   exact Does.is (d_move rfl)
  refine ls_cons ?_ ?_
  ·
   intro v21 lo hi w_ k_ hO hd _ _ hk_ _ hR hold
   have e3 : v21 3 = (Value.bool false) := hd 3 (by kernel_rfl)
   have e4 : v21 4 = u19 := hd 4 (by kernel_rfl)
   clear hd hold
   refine ⟨_, rfl, gd_on rfl rfl rfl (nb rfl) e3 ?_⟩
   refine Does.mono (d_sliceS (xs := (pgE (dataL la 48))) (ys := ((pgE (dataL la 48)).take 4)) (l := 0) (h := 4) Try.underlying22 s_ti5 e4 (f20.step hO no_any) Bd.none (Bd.some (l := 4) (k := .i64) rfl) (by omega) (by omega) (by simp)) (fun u w' h => ⟨h.2 ▸ h.1, h.2 ▸ Only.refl _ _⟩)
  refine ls_cons ?_ ?_
  ·
   intro v21 lo hi w_ k_ hO hd _ _ hk_ _ hR hold
   have e3 : v21 3 = (Value.bool false) := hd 3 (by kernel_rfl)
   have d5 : Ps (Old W.heap.size) (Seq kB ((pgE (dataL la 48)).take 4) (v21 5)) w_ := hd 5 (by kernel_rfl)
   clear hd hold
   refine ⟨_, rfl, gd_on rfl rfl rfl (nb rfl) e3 ?_⟩
   exact Does.is (d_str Try.underlying22 Try.underlying5 Try.underlying9 rfl d5)
  refine ls_cons ?_ ?_
  ·
   intro v21 lo hi w_ k_ hO hd _ _ hk_ _ hR hold
   have e3 : v21 3 = (Value.bool false) := hd 3 (by kernel_rfl)
   clear hd hold
   refine ⟨_, rfl, gd_on rfl rfl rfl (nb rfl) e3 ?_⟩
   refine Does.mono (d_make1 (n := 4) Try.underlying22 s_ti5 rfl rfl (by omega) (by omega) rfl) (fun u w' h => ⟨(made_zero h).1.less (old_old (Nat.le_trans oW.size hO.size)), (made_zero h).2⟩)
  refine ls_cons ?_ ?_
  ·
   intro v21 lo hi w_ k_ hO hd _ _ hk_ _ hR hold
   have e3 : v21 3 = (Value.bool false) := hd 3 (by kernel_rfl)
   have d7 : Ps (Old W.heap.size) (Seq kB (List.replicate 4 0) (v21 7)) w_ := hd 7 (by kernel_rfl)
   clear hd hold
   refine ⟨_, rfl, gd_on rfl rfl rfl (nb rfl) e3 ?_⟩
   exact Does.is (d_str Try.underlying22 Try.underlying5 Try.underlying9 rfl d7)
  refine ls_cons ?_ ?_
  ·
   intro v21 lo hi w_ k_ hO hd _ _ hk_ _ hR hold
   have e3 : v21 3 = (Value.bool false) := hd 3 (by kernel_rfl)
   have e6 : v21 6 = (Value.string (strOf ((pgE (dataL la 48)).take 4))) := hd 6 (by kernel_rfl)
   have e8 : v21 8 = (Value.string (strOf (List.replicate 4 0))) := hd 8 (by kernel_rfl)
   clear hd hold
   refine ⟨_, rfl, gd_on rfl rfl rfl (nb rfl) e3 ?_⟩
   exact Does.is (d_sneq (a := ((pgE (dataL la 48)).take 4)) (c := (List.replicate 4 0)) e6 e8 (by rw [decide_eq_true (pgE_mark (dataL_length la 48))] <;> rfl))
  refine ls_cons ?_ ?_
  ·
   intro v21 lo hi w_ k_ hO hd _ _ hk_ _ hR hold
   have e3 : v21 3 = (Value.bool false) := hd 3 (by kernel_rfl)
   have e9 : v21 9 = (Value.bool false) := hd 9 (by kernel_rfl)
   clear hd hold
   refine ⟨_, rfl, gd rfl ?_⟩
   exact Does.is (d_pick (b := false) (v := (Value.bool false)) e3 e9)
  exact ls_nil
 ·
  exact ms_nil
 intro v21 lo_ hi_ w22 o23 hd iv_ hR
 have e0 : v21 0 = u19 := hd 0 (by decide)
 have e1 : v21 1 = (eN ((pgE (dataL la 48)).length)) := hd 1 (by decide)
 have e2 : v21 2 = (Value.bool false) := hd 2 (by decide)
 have e3 : v21 3 = (Value.bool false) := hd 3 (by decide)
 have e4 : v21 4 = u19 := hd 4 (by decide)
 have e6 : v21 6 = (Value.string (strOf ((pgE (dataL la 48)).take 4))) := hd 6 (by decide)
 have e8 : v21 8 = (Value.string (strOf (List.replicate 4 0))) := hd 8 (by decide)
 have e9 : v21 9 = (Value.bool false) := hd 9 (by decide)
 have e10 : v21 10 = (Value.bool false) := hd 10 (by decide)
 have f_v21_5 : Ps (Old W.heap.size) (Seq kB ((pgE (dataL la 48)).take 4) (v21 5)) w22 := hd 5 (by decide)
 have f_v21_7 : Ps (Old W.heap.size) (Seq kB (List.replicate 4 0) (v21 7)) w22 := hd 7 (by decide)
 clear hd iv_ lo_ hi_
 refine fr_eq (l' := ([u1, u2, undef, undef, (Value.bool false), u19, undef, undef, undef, (Value.bool true), (Value.bool false), u1, u15, u19, u19, (eN ((pgE (dataL la 48)).length)), (Value.bool false), (Value.bool false), u19, (v21 5), (Value.string (strOf ((pgE (dataL la 48)).take 4))), (v21 7), (Value.string (strOf (List.replicate 4 0))), (Value.bool false), (Value.bool false)] ++ (us 34))) (by rw [e0, e1, e2, e3, e4, e6, e8, e9, e10] <;> rfl) ?_
 clear e0 e1 e2 e3 e4 e6 e8 e9 e10
 replace h1 := h1.step o23 no_any
 replace h2 := h2.step o23 no_any
 replace f16 := f16.step o23 no_any
 replace f20 := f20.step o23 no_any
 clear hR
 replace oW := oW.tail o23 tl_no
 refine then_n ?_
 refine forget (fun zf24 => ([u1, u2, (zf24 2), (zf24 3), (zf24 4), u19] ++ (zs zf24 6 18 ++ [(Value.bool false), (zf24 25), (zf24 26)] ++ (us 6 ++ (zs zf24 33 14 ++ (us 12)))))) (by kernel_rfl) (fun zf24 => ?_)
 refine cond_f rfl ?_
 refine wpIn_skip ?_
 refine then_n ?_
 refine wpIn_seq ?_
 refine plain ?_
 refine wI (d_move rfl) ?_
 refine wO (d_call (xl := [.tmp 25, .const (.int .i64 4)]) (al := [u2, (eN 4)]) Try.func15 (by kernel_rfl) rfl rfl rfl (l4Data_ok lb 4 u2 _ (Ps.no h2) (by omega))) ?_
 rintro u27 w25 f28
 replace f28 := f28.ps
 obtain ⟨f28, o26⟩ := f28
 replace f28 := f28.less (Y := (Old W.heap.size)) (old_old oW.size)
 replace h1 := h1.step0 o26
 replace h2 := h2.step0 o26
 replace f16 := f16.step0 o26
 replace f20 := f20.step0 o26
 replace f_v21_5 := f_v21_5.step0 o26
 replace f_v21_7 := f_v21_7.step0 o26
 replace oW := oW.tail0 o26
 refine wI (d_assign rfl) ?_
 refine wF ([u1, u2, (zf24 2), (zf24 3), (zf24 4), u19, u27] ++ (zs zf24 7 17 ++ [(Value.bool false), u2, u27] ++ (us 6 ++ (zs zf24 33 14 ++ (us 12))))) ?_
 refine wpL.done ?_
 refine then_n ?_
 refine wpIn_seq ?_
 have hX0_ : ∀ k, (Old W.heap.size) k → k < w25.heap.size := (fun k t => Nat.lt_of_lt_of_le t oW.size)
 have hO0_ : ∀ k, No k → k < w25.heap.size := fun k h => hX0_ k (no_any k h)
 have h1N := h1.orN
 have h2N := h2.orN
 have f16N := f16.orN
 have f20N := f20.orN
 have f_v21_5N := f_v21_5.orN
 have f_v21_7N := f_v21_7.orN
 have f28N := f28.orN
 refine drawnT (O := No) (n := 7) 5 [0, 0, 3, 0, 8, 31, 63] [(0, 27), (1, 28), (2, 29), (3, 30), (4, 31), (5, 32), (6, 7)] [(0, 27), (1, 28), (2, 29), (3, 30), (4, 31)] [0, 1, 2, 3, 4] [] (fun i_ => ([RF.ar No 5 0 (([] : List UInt8).map eB) w25.heap.size hO0_, RF.is No u27, RF.ow No 5 (dataL lb 4).length ((dataL lb 4).map eB) w25.heap.size hO0_, RF.is No u19, RF.ps No (OrN (Old W.heap.size) w25.heap.size) (Seq kB ((pgE (dataL la 48)).drop 4)) (orn_mono no_any)] : List (RF No)).getD i_ (RF.any No)) (fun _ w_ => True) (fun v29 => ([u1, u2, (zf24 2), (zf24 3), (zf24 4), u19, u27, (v29 6)] ++ (zs zf24 8 16 ++ [(Value.bool false), u2, u27, (v29 0), (v29 1), (v29 2), (v29 3), (v29 4), (v29 5)] ++ (zs zf24 33 14 ++ (us 12))))) (fun v29 => ([u1, u2, (zf24 2), (zf24 3), (zf24 4), u19, u27] ++ (zs zf24 7 17 ++ [(Value.bool false), u2, u27, (v29 0), (v29 1), (v29 2), (v29 3), (v29 4), undef] ++ (zs zf24 33 14 ++ (us 12))))) s_mx (by kernel_rfl) rfl (by decide) (by rfl) (by kernel_rfl) (by kernel_rfl) (by kernel_rfl) (by rfl) (fun v_ => by kernel_rfl) (fun v_ => by kernel_rfl) (fun _ => fun _ _ _ _ => trivial) trivial ?_ ?_ ?_
 ·
  refine ls_cons ?_ ?_
  ·
   intro v29 lo hi w_ k_ hO hd _ _ hk_ _ hR hold
   clear hd hold
   refine ⟨_, rfl, gd rfl ?_⟩
   refine Does.mono (d_buildL (cs := []) Try.underlying22 s_ti5 rfl (nb rfl) parts_nil rfl) (fun u w' h => by obtain ⟨b_, rfl, hb_, hA_, hO_⟩ := h; exact ⟨⟨b_, rfl, hA_, Nat.le_trans hO.size hb_⟩, hO_⟩)
  refine ls_cons ?_ ?_
  ·
   intro v29 lo hi w_ k_ hO hd _ _ hk_ _ hR hold
   clear hd hold
   refine ⟨_, rfl, gd rfl ?_⟩
   exact Does.is (d_move rfl)
  refine ls_cons ?_ ?_
  ·
   intro v29 lo hi w_ k_ hO hd _ _ hk_ _ hR hold
   obtain ⟨mb0, me0, ma0, mf0⟩ : ∃ b, v29 0 = sli b 0 0 0 ∧ Arr 5 b (([] : List UInt8).map eB) w_ ∧ w25.heap.size ≤ b := hd 0 (by kernel_rfl)
   have e1 : v29 1 = u27 := hd 1 (by kernel_rfl)
   clear hd hold
   refine ⟨_, rfl, gd rfl ?_⟩
   refine Does.mono (R := AppFull 5 eB mb0 (dataL lb 4) w_) ?_ (fun u w' h => by obtain ⟨bo_, h1_, h2_, h3_⟩ := h; exact ⟨⟨bo_, h1_, fresh_of h2_ mf0 hO.size⟩, h3_⟩)
   exact d_append_full (xs := ([] : List UInt8)) (ys := (dataL lb 4)) Try.underlying22 Try.underlying22 s_ti5 rfl me0 e1 ma0 (by simp) (SrcV.of_seq (f28N.step hO (orn_mono no_any)) (fun _ => rfl)) (by simp [dataL_length]) (by simp [dataL_length]) rfl
  refine ls_cons ?_ ?_
  ·
   intro v29 lo hi w_ k_ hO hd _ _ hk_ _ hR hold
   clear hd hold
   refine ⟨_, rfl, gd rfl ?_⟩
   exact Does.is (d_move rfl)
  refine ls_cons ?_ ?_
  ·
   intro v29 lo hi w_ k_ hO hd _ _ hk_ _ hR hold
   have e3 : v29 3 = u19 := hd 3 (by kernel_rfl)
   clear hd hold
   refine ⟨_, rfl, gd rfl ?_⟩
   refine Does.mono (d_sliceS (xs := (pgE (dataL la 48))) (ys := ((pgE (dataL la 48)).drop 4)) (l := 4) (h := ((pgE (dataL la 48)).length)) Try.underlying22 s_ti5 e3 (f20N.step hO (orn_mono no_any)) (Bd.some (l := 4) (k := .i64) rfl) Bd.none (by omega) (by omega) (by simp)) (fun u w' h => ⟨h.2 ▸ h.1, h.2 ▸ Only.refl _ _⟩)
  exact ls_nil
 ·
  exact ms_nil
 intro v29 lo_ hi_ w30 o31 hd iv_ hR
 have e1 : v29 1 = u27 := hd 1 (by decide)
 have e3 : v29 3 = u19 := hd 3 (by decide)
 have f_v29_4 : Ps (OrN (Old W.heap.size) w25.heap.size) (Seq kB ((pgE (dataL la 48)).drop 4) (v29 4)) w30 := hd 4 (by decide)
 obtain ⟨bo32, a33, g34⟩ : ∃ bo, Ow 5 1 bo (v29 2) (dataL lb 4).length ((dataL lb 4).map eB) w30 ∧ ∀ b, bo = some b → w25.heap.size ≤ b := hd 2 (by decide)
 have q_oW_c := qnew g34 oW.size
 clear hd iv_ lo_ hi_
 refine wpL.flat ([u1, u2, (zf24 2), (zf24 3), (zf24 4), u19, u27] ++ (zs zf24 7 17 ++ [(Value.bool false), u2, u27, (v29 0), u27, (v29 2), u19, (v29 4), undef] ++ (zs zf24 33 14 ++ (us 12)))) (by rw [e1, e3] <;> rfl) ?_
 clear e1 e3
 replace h1 := (h1.less (Y := Orq bo32 No) (xx_newq g34 xx_id)).step o31 (orq_skip no_any)
 replace h2 := (h2.less (Y := Orq bo32 No) (xx_newq g34 xx_id)).step o31 (orq_skip no_any)
 replace f16 := (f16.less (Y := Orq bo32 (Old W.heap.size)) (xx_newq g34 xx_id)).step o31 (orq_skip no_any)
 replace f20 := (f20.less (Y := Orq bo32 (Old W.heap.size)) (xx_newq g34 xx_id)).step o31 (orq_skip no_any)
 replace f_v21_5 := (f_v21_5.less (Y := Orq bo32 (Old W.heap.size)) (xx_newq g34 xx_id)).step o31 (orq_skip no_any)
 replace f_v21_7 := (f_v21_7.less (Y := Orq bo32 (Old W.heap.size)) (xx_newq g34 xx_id)).step o31 (orq_skip no_any)
 replace f28 := (f28.less (Y := Orq bo32 (Old W.heap.size)) (xx_newq g34 xx_id)).step o31 (orq_skip no_any)
 clear hR
 replace oW := oW.tail o31 tl_no
 replace f_v29_4 := f_v29_4.less (Y := Orq bo32 (Old W.heap.size)) (orN_q g34)
 refine wO (d_append Try.underlying22 Try.underlying22 s_ti5 rfl rfl rfl a33 (SrcV.of_seq f_v29_4 (fun _ => rfl)) (by simp [dataL_length]; omega) (by simp [dataL_length]; omega) rfl) ?_
 rintro u35 w36 ⟨bo37, a38, o39, q40⟩
 replace a38 : Ow 5 1 bo37 u35 ((dataL lb 4) ++ ((pgE (dataL la 48)).drop 4)).length (((dataL lb 4) ++ ((pgE (dataL la 48)).drop 4)).map eB) w36 := by rw [List.length_append, List.map_append]; exact a38
 replace h1 := h1.gr o39 (fun k e => (.inl e)) (xx_re (Fr.of_or q40) xx_id)
 replace h2 := h2.gr o39 (fun k e => (.inl e)) (xx_re (Fr.of_or q40) xx_id)
 replace f16 := f16.gr o39 (fun k e => (.inl e)) (xx_re (Fr.of_or q40) xx_id)
 replace f20 := f20.gr o39 (fun k e => (.inl e)) (xx_re (Fr.of_or q40) xx_id)
 replace f_v21_5 := f_v21_5.gr o39 (fun k e => (.inl e)) (xx_re (Fr.of_or q40) xx_id)
 replace f_v21_7 := f_v21_7.gr o39 (fun k e => (.inl e)) (xx_re (Fr.of_or q40) xx_id)
 replace f28 := f28.gr o39 (fun k e => (.inl e)) (xx_re (Fr.of_or q40) xx_id)
 replace f_v29_4 := f_v29_4.gr o39 (fun k e => (.inl e)) (xx_re (Fr.of_or q40) xx_id)
 have tq := oW.size
 replace oW := oW.tailr o39 q_oW_c (fun _ e => by cases e)
 replace q_oW_c := qtr (Fr.of_or q40) q_oW_c tq
 clear tq
 refine wF ([u1, u2, (zf24 2), (zf24 3), (zf24 4), u19, u27] ++ (zs zf24 7 17 ++ [(Value.bool false), u2, u27, (v29 0), u27, (v29 2), u19, (v29 4), u35] ++ (zs zf24 33 14 ++ (us 12)))) ?_
 refine wI (d_assign rfl) ?_
 refine wF ([u1, u2, (zf24 2), (zf24 3), (zf24 4), u19, u27, u35] ++ (zs zf24 8 16 ++ [(Value.bool false), u2, u27, (v29 0), u27, (v29 2), u19, (v29 4), u35] ++ (zs zf24 33 14 ++ (us 12)))) ?_
 refine wpL.done ?_
 refine then_n ?_
 refine forget (fun zf41 => ([u1] ++ (zs zf41 1 5 ++ [u27, u35] ++ (zs zf41 8 39 ++ (us 12))))) (by kernel_rfl) (fun zf41 => ?_)
 refine wpIn_seq ?_
 refine plain ?_
 refine wI (d_move rfl) ?_
 refine wO (d_call (xl := [.tmp 33]) (al := [u35]) Try.func21 (by kernel_rfl) rfl rfl rfl (pageDecode_ok ((dataL lb 4) ++ ((pgE (dataL la 48)).drop 4)) u35 _ (Ps.no (a38.seq (X := No) (fun _ _ h => h))) (by have := dataL_length lb 4; have := dataL_length la 48; have := pgE_len (dataL la 48); first | omega | (simp; done) | (simp; omega)))) ?_
 rintro _ w42 ⟨u44, rfl, f45, o43⟩
 replace f45 := f45.less (Y := (Orq bo37 (Old W.heap.size))) (orq_old a38.lts (old_old oW.size))
 replace h1 := h1.step0 o43
 replace h2 := h2.step0 o43
 replace f16 := f16.step0 o43
 replace f20 := f20.step0 o43
 replace f_v21_5 := f_v21_5.step0 o43
 replace f_v21_7 := f_v21_7.step0 o43
 replace f28 := f28.step0 o43
 replace f_v29_4 := f_v29_4.step0 o43
 replace a38 := a38.step0 o43
 replace oW := oW.tail0 o43
 refine wO (d_alloc s_ti32 rfl) ?_
 rintro _ w47 ⟨b46, rfl, g48, a49, o50⟩
 have nq_c_b46 : ∀ x, bo37 = some x → ¬ x = b46 := fun x hx e => by have := a38.lts x hx; omega
 have g_oW_b46 : W.heap.size ≤ b46 := Nat.le_trans oW.size g48
 replace h1 := h1.new o50 g48
 replace h2 := h2.new o50 g48
 replace f16 := f16.new o50 g48
 replace f20 := f20.new o50 g48
 replace f_v21_5 := f_v21_5.new o50 g48
 replace f_v21_7 := f_v21_7.new o50 g48
 replace f28 := f28.new o50 g48
 replace f_v29_4 := f_v29_4.new o50 g48
 replace f45 := f45.new o50 g48
 replace a38 := a38.step0 o50
 replace oW := oW.tail0 o50
 refine wF ([u1] ++ (zs zf41 1 5 ++ [u27, u35, (ptr b46 0)] ++ (zs zf41 9 24 ++ [u35, (Value.agg #[(eN ((pgD ((dataL lb 4) ++ ((pgE (dataL la 48)).drop 4))).1)), u44])] ++ (zs zf41 35 12 ++ (us 12))))) ?_
 refine wO (d_storeAg (cs' := [(eN ((pgD ((dataL lb 4) ++ ((pgE (dataL la 48)).drop 4))).1)), u44]) s_ti32 rfl rfl rfl (oc_cons rfl (oc_cons (Seq.one f45) oc_nil)) a49 (by decide) rfl) ?_
 rintro _ w51 ⟨a52, o53⟩
 replace h1 := h1.stepb o53 in1
 replace h2 := h2.stepb o53 in1
 replace f16 := f16.stepb o53 in1
 replace f20 := f20.stepb o53 in1
 replace f_v21_5 := f_v21_5.stepb o53 in1
 replace f_v21_7 := f_v21_7.stepb o53 in1
 replace f28 := f28.stepb o53 in1
 replace f_v29_4 := f_v29_4.stepb o53 in1
 replace f45 := f45.stepb o53 in1
 replace a38 := a38.step o53 (fun x hx e => nq_c_b46 x hx e)
 replace oW := oW.tailb o53 g_oW_b46
 refine wF ([u1] ++ (zs zf41 1 5 ++ [u27, u35, (ptr b46 0)] ++ (zs zf41 9 24 ++ [u35, (Value.agg #[(eN ((pgD ((dataL lb 4) ++ ((pgE (dataL la 48)).drop 4))).1)), u44])] ++ (zs zf41 35 12 ++ (us 12))))) ?_
 refine wpL.done ?_
 refine then_n ?_
 refine wpIn_seq ?_
 refine wpIn_seq ?_
 refine plain ?_
 refine wI (d_move rfl) ?_
 refine wO (d_call (xl := [.tmp 35]) (al := [u27]) Try.func24 (by kernel_rfl) rfl rfl rfl (ref6Ones_ok (dataL lb 4) u27 _ (Ps.no f28) (by have := dataL_length lb 4; first | omega | (simp; done) | (simp; omega)))) ?_
 rintro _ w54 ⟨rfl, o55⟩
 replace h1 := h1.step0 o55
 replace h2 := h2.step0 o55
 replace f16 := f16.step0 o55
 replace f20 := f20.step0 o55
 replace f_v21_5 := f_v21_5.step0 o55
 replace f_v21_7 := f_v21_7.step0 o55
 replace f28 := f28.step0 o55
 replace f_v29_4 := f_v29_4.step0 o55
 replace f45 := f45.step0 o55
 replace a52 := a52.step0 o55
 replace a38 := a38.step0 o55
 replace oW := oW.tail0 o55
 refine wI (n_gtr (a := (onesN (dataL lb 4))) (b := 16) rfl rfl rfl) ?_
 refine wF ([u1] ++ (zs zf41 1 5 ++ [u27, u35, (ptr b46 0)] ++ (zs zf41 9 24 ++ [u35, (Value.agg #[(eN ((pgD ((dataL lb 4) ++ ((pgE (dataL la 48)).drop 4))).1)), u44]), u27, (eN (onesN (dataL lb 4))), (Value.bool (decide (16 < (onesN (dataL lb 4)))))] ++ (zs zf41 38 9 ++ (us 12))))) ?_
 refine wpL.done ?_
 refine then_n ?_
 refine cond_if rfl (fun d0 => ?_) (fun d0 => ?_)
 ·
  refine wpIn_seq ?_
  refine plain ?_
  refine wI (d_fieldAddr (j := 0) Try.underlying32 rfl s_ti3 (by decide) rfl rfl) ?_
  refine wI (d_load (v := (eN ((pgD ((dataL lb 4) ++ ((pgE (dataL la 48)).drop 4))).1))) ⟨_, Try.underlying3, rfl⟩ rfl a52 rfl) ?_
  refine wI (n_eql (a := ((pgD ((dataL lb 4) ++ ((pgE (dataL la 48)).drop 4))).1)) (b := 0) rfl rfl (decide_eq_true (by rw [pg_mark (dataL_length la 48) (dataL_length lb 4), if_pos d0]))) ?_
  refine wF ([u1] ++ (zs zf41 1 5 ++ [u27, u35, (ptr b46 0)] ++ (zs zf41 9 24 ++ [u35, (Value.agg #[(eN ((pgD ((dataL lb 4) ++ ((pgE (dataL la 48)).drop 4))).1)), u44]), u27, (eN (onesN (dataL lb 4))), (Value.bool (decide (16 < (onesN (dataL lb 4))))), (ptr b46 0), (eN ((pgD ((dataL lb 4) ++ ((pgE (dataL la 48)).drop 4))).1)), (Value.bool true)] ++ (zs zf41 41 6 ++ (us 12))))) ?_
  refine wI (d_move rfl) ?_
  refine wpL.onis rfl rfl rfl (nb rfl) rfl (d_fieldAddr (j := 1) Try.underlying32 rfl s_ti22 (by decide) rfl rfl) ?_
  refine wpL.onis rfl rfl rfl (nb rfl) rfl (d_load (v := u44) ⟨_, Try.underlying22, rfl⟩ rfl a52 rfl) ?_
  refine wF ([u1] ++ (zs zf41 1 5 ++ [u27, u35, (ptr b46 0)] ++ (zs zf41 9 24 ++ [u35, (Value.agg #[(eN ((pgD ((dataL lb 4) ++ ((pgE (dataL la 48)).drop 4))).1)), u44]), u27, (eN (onesN (dataL lb 4))), (Value.bool (decide (16 < (onesN (dataL lb 4))))), (ptr b46 0), (eN ((pgD ((dataL lb 4) ++ ((pgE (dataL la 48)).drop 4))).1)), (Value.bool true), (Value.bool true), (ptr b46 1), u44, (zf41 44), (zf41 45), (zf41 46)] ++ (us 12)))) ?_
  refine wpL.onis rfl rfl rfl (nb rfl) rfl (d_lenS rfl Try.underlying22 rfl f45) ?_
  refine wpL.onis rfl rfl rfl (nb rfl) rfl (n_eql (a := (((pgD ((dataL lb 4) ++ ((pgE (dataL la 48)).drop 4))).2).length)) (b := 0) rfl rfl (decide_eq_true (by rw [pg_mark (dataL_length la 48) (dataL_length lb 4), if_pos d0]; rfl))) ?_
  refine wI (d_pick (b := true) (v := (Value.bool true)) rfl rfl) ?_
  refine wF ([u1] ++ (zs zf41 1 5 ++ [u27, u35, (ptr b46 0)] ++ (zs zf41 9 24 ++ [u35, (Value.agg #[(eN ((pgD ((dataL lb 4) ++ ((pgE (dataL la 48)).drop 4))).1)), u44]), u27, (eN (onesN (dataL lb 4))), (Value.bool (decide (16 < (onesN (dataL lb 4))))), (ptr b46 0), (eN ((pgD ((dataL lb 4) ++ ((pgE (dataL la 48)).drop 4))).1)), (Value.bool true), (Value.bool true), (ptr b46 1), u44, (eN (((pgD ((dataL lb 4) ++ ((pgE (dataL la 48)).drop 4))).2).length)), (Value.bool true), (Value.bool true)] ++ (us 12)))) ?_
  refine wI (d_assign rfl) ?_
  refine wF ([u1, (zf41 1), (zf41 2), (zf41 3), (Value.bool true), (zf41 5), u27, u35, (ptr b46 0)] ++ (zs zf41 9 24 ++ [u35, (Value.agg #[(eN ((pgD ((dataL lb 4) ++ ((pgE (dataL la 48)).drop 4))).1)), u44]), u27, (eN (onesN (dataL lb 4))), (Value.bool (decide (16 < (onesN (dataL lb 4))))), (ptr b46 0), (eN ((pgD ((dataL lb 4) ++ ((pgE (dataL la 48)).drop 4))).1)), (Value.bool true), (Value.bool true), (ptr b46 1), u44, (eN (((pgD ((dataL lb 4) ++ ((pgE (dataL la 48)).drop 4))).2).length)), (Value.bool true), (Value.bool true)] ++ (us 12))) ?_
  refine wpL.done ?_
  refine then_n ?_
  refine forget (fun zf56 => ([(zf56 0), (zf56 1), (zf56 2), (zf56 3), (Value.bool true)] ++ (zs zf56 5 54))) (by kernel_rfl) (fun zf56 => ?_)
  refine wpIn_ret ?_
  refine then_r ?_
  refine leave0 (v := (Value.bool true)) (res1 Try.results7 rfl) ?_
  exact ⟨rfl, oW⟩
 refine wpIn_skip ?_
 refine then_n ?_
 refine wpIn_seq ?_
 refine drawn' (O := (Or1 b46 (Orq bo37 No))) (n := 13) [0, 1, 3, 7, 15, 31, 63, 15, 143, 399, 1023, 2047, 4095] [(0, 47), (1, 48), (2, 49), (3, 50), (4, 51), (5, 52), (6, 53), (7, 54), (8, 55), (9, 56), (10, 57), (11, 58), (12, 4)] [0, 1, 2, 3, 4, 5, 6, 7, 8, 9, 10, 11, 12] [] (fun i_ => ([RF.is (Or1 b46 (Orq bo37 No)) (ptr b46 0), RF.is (Or1 b46 (Orq bo37 No)) (eN ((pgD ((dataL lb 4) ++ ((pgE (dataL la 48)).drop 4))).1)), RF.is (Or1 b46 (Orq bo37 No)) (Value.bool true), RF.is (Or1 b46 (Orq bo37 No)) (Value.bool true), RF.is (Or1 b46 (Orq bo37 No)) (ptr b46 1), RF.is (Or1 b46 (Orq bo37 No)) u44, RF.is (Or1 b46 (Orq bo37 No)) (Value.string (strOf ((pgD ((dataL lb 4) ++ ((pgE (dataL la 48)).drop 4))).2))), RF.is (Or1 b46 (Orq bo37 No)) u1, RF.ps (Or1 b46 (Orq bo37 No)) (Or1 b46 (Orq bo37 (Old W.heap.size))) (Seq kB (dataL la 48)) (or1_mono (orq_mono no_any)), RF.is (Or1 b46 (Orq bo37 No)) (Value.string (strOf (dataL la 48))), RF.is (Or1 b46 (Orq bo37 No)) (Value.bool true), RF.is (Or1 b46 (Orq bo37 No)) (Value.bool true), RF.is (Or1 b46 (Orq bo37 No)) (Value.bool true)] : List (RF (Or1 b46 (Orq bo37 No)))).getD i_ (RF.any (Or1 b46 (Orq bo37 No)))) (fun _ w_ => Arr 32 b46 [(eN ((pgD ((dataL lb 4) ++ ((pgE (dataL la 48)).drop 4))).1)), u44] w_ ∧ Ow 5 1 bo37 u35 ((dataL lb 4) ++ ((pgE (dataL la 48)).drop 4)).length (((dataL lb 4) ++ ((pgE (dataL la 48)).drop 4)).map eB) w_) (fun v57 => ([u1, (zf41 1), (zf41 2), (zf41 3), (v57 12), (zf41 5), u27, u35, (ptr b46 0)] ++ (zs zf41 9 24 ++ [u35, (Value.agg #[(eN ((pgD ((dataL lb 4) ++ ((pgE (dataL la 48)).drop 4))).1)), u44]), u27, (eN (onesN (dataL lb 4))), (Value.bool (decide (16 < (onesN (dataL lb 4)))))] ++ (zs zf41 38 9 ++ [(v57 0), (v57 1), (v57 2), (v57 3), (v57 4), (v57 5), (v57 6), (v57 7), (v57 8), (v57 9), (v57 10), (v57 11)])))) s_mx (by kernel_rfl) rfl (by kernel_rfl) (by rfl) (fun v_ => by kernel_rfl) (fun _ => fun w_ w2_ h ho => by obtain ⟨r_a52, r_a38⟩ := h; exact ⟨r_a52.step0 ho, r_a38.step0 ho⟩) ⟨a52, a38⟩ ?_ ?_ ?_
 ·
  refine ls_cons ?_ ?_
  ·
   intro v57 lo hi w_ k_ hO hd _ _ hk_ _ hR hold
   obtain ⟨r_a52, r_a38⟩ := hR
   clear hd hold
   refine ⟨_, rfl, gd rfl ?_⟩
   exact Does.is (d_fieldAddr (j := 0) Try.underlying32 rfl s_ti3 (by decide) rfl rfl)
  refine ls_cons ?_ ?_
  ·
   intro v57 lo hi w_ k_ hO hd _ _ hk_ _ hR hold
   obtain ⟨r_a52, r_a38⟩ := hR
   have e0 : v57 0 = (ptr b46 0) := hd 0 (by kernel_rfl)
   clear hd hold
   refine ⟨_, rfl, gd rfl ?_⟩
   exact Does.is (d_load (v := (eN ((pgD ((dataL lb 4) ++ ((pgE (dataL la 48)).drop 4))).1))) ⟨_, Try.underlying3, rfl⟩ e0 r_a52 rfl)
  refine ls_cons ?_ ?_
  ·
   intro v57 lo hi w_ k_ hO hd _ _ hk_ _ hR hold
   obtain ⟨r_a52, r_a38⟩ := hR
   have e1 : v57 1 = (eN ((pgD ((dataL lb 4) ++ ((pgE (dataL la 48)).drop 4))).1)) := hd 1 (by kernel_rfl)
   clear hd hold
   refine ⟨_, rfl, gd rfl ?_⟩
   exact Does.is (n_eql (a := ((pgD ((dataL lb 4) ++ ((pgE (dataL la 48)).drop 4))).1)) (b := 2) e1 rfl (decide_eq_true (by rw [pg_mark (dataL_length la 48) (dataL_length lb 4), if_neg d0])))
  refine ls_cons ?_ ?_
  ·
   intro v57 lo hi w_ k_ hO hd _ _ hk_ _ hR hold
   obtain ⟨r_a52, r_a38⟩ := hR
   have e2 : v57 2 = (Value.bool true) := hd 2 (by kernel_rfl)
   clear hd hold
   refine ⟨_, rfl, gd rfl ?_⟩
   exact Does.is (d_move (v := (Value.bool true)) e2)
  refine ls_cons ?_ ?_
  ·
   intro v57 lo hi w_ k_ hO hd _ _ hk_ _ hR hold
   obtain ⟨r_a52, r_a38⟩ := hR
   have e3 : v57 3 = (Value.bool true) := hd 3 (by kernel_rfl)
   clear hd hold
   refine ⟨_, rfl, gd_on rfl rfl rfl (nb rfl) e3 ?_⟩
   exact Does.is (d_fieldAddr (j := 1) Try.underlying32 rfl s_ti22 (by decide) rfl rfl)
  refine ls_cons ?_ ?_
  ·
   intro v57 lo hi w_ k_ hO hd _ _ hk_ _ hR hold
   obtain ⟨r_a52, r_a38⟩ := hR
   have e3 : v57 3 = (Value.bool true) := hd 3 (by kernel_rfl)
   have e4 : v57 4 = (ptr b46 1) := hd 4 (by kernel_rfl)
   clear hd hold
   refine ⟨_, rfl, gd_on rfl rfl rfl (nb rfl) e3 ?_⟩
   exact Does.is (d_load (v := u44) ⟨_, Try.underlying22, rfl⟩ e4 r_a52 rfl)
  refine ls_cons ?_ ?_
  ·
   intro v57 lo hi w_ k_ hO hd _ _ hk_ _ hR hold
   obtain ⟨r_a52, r_a38⟩ := hR
   have e3 : v57 3 = (Value.bool true) := hd 3 (by kernel_rfl)
   have e5 : v57 5 = u44 := hd 5 (by kernel_rfl)
   clear hd hold
   refine ⟨_, rfl, gd_on rfl rfl rfl (nb rfl) e3 ?_⟩
   exact Does.is (d_str Try.underlying22 Try.underlying5 Try.underlying9 e5 (f45.step hO (or1_mono (orq_mono no_any))))
  refine ls_cons ?_ ?_
  ·
   intro v57 lo hi w_ k_ hO hd _ _ hk_ _ hR hold
   obtain ⟨r_a52, r_a38⟩ := hR
   have e3 : v57 3 = (Value.bool true) := hd 3 (by kernel_rfl)
   clear hd hold
   refine ⟨_, rfl, gd_on rfl rfl rfl (nb rfl) e3 ?_⟩
   exact Does.is (d_move rfl)
  refine ls_cons ?_ ?_
  ·
   intro v57 lo hi w_ k_ hO hd _ _ hk_ _ hR hold
   obtain ⟨r_a52, r_a38⟩ := hR
   have e3 : v57 3 = (Value.bool true) := hd 3 (by kernel_rfl)
   have e7 : v57 7 = u1 := hd 7 (by kernel_rfl)
   clear hd hold
   refine ⟨_, rfl, gd_on rfl rfl rfl (nb rfl) e3 ?_⟩
   refine Does.mono (R := ROw 5 eB (dataL la 48) w_) ?_ (fun u w' h => ⟨(h.ps).1.less (or1_old r_a52.lt (orq_old r_a38.lts (old_old (Nat.le_trans oW.size hO.size)))), (h.ps).2⟩)
   exact d_call (xl := [.tmp 54, .const (.int .i64 48)]) (al := [u1, (eN 48)]) Try.func15 (by kernel_rfl) rfl (show ([(v57 7), (eN 48)] : List Value) = [u1, (eN 48)] from by rw [e7]) rfl (l4Data_ok la 48 u1 _ (Ps.no (h1.step hO (or1_mono (orq_mono no_any)))) (by omega))
  refine ls_cons ?_ ?_
  ·
   intro v57 lo hi w_ k_ hO hd _ _ hk_ _ hR hold
   obtain ⟨r_a52, r_a38⟩ := hR
   have e3 : v57 3 = (Value.bool true) := hd 3 (by kernel_rfl)
   have d8 : Ps (Or1 b46 (Orq bo37 (Old W.heap.size))) (Seq kB (dataL la 48) (v57 8)) w_ := hd 8 (by kernel_rfl)
   clear hd hold
   refine ⟨_, rfl, gd_on rfl rfl rfl (nb rfl) e3 ?_⟩
   exact Does.is (d_str Try.underlying22 Try.underlying5 Try.underlying9 rfl d8)
  refine ls_cons ?_ ?_
  ·
   intro v57 lo hi w_ k_ hO hd _ _ hk_ _ hR hold
   obtain ⟨r_a52, r_a38⟩ := hR
   have e3 : v57 3 = (Value.bool true) := hd 3 (by kernel_rfl)
   have e6 : v57 6 = (Value.string (strOf ((pgD ((dataL lb 4) ++ ((pgE (dataL la 48)).drop 4))).2))) := hd 6 (by kernel_rfl)
   have e9 : v57 9 = (Value.string (strOf (dataL la 48))) := hd 9 (by kernel_rfl)
   clear hd hold
   refine ⟨_, rfl, gd_on rfl rfl rfl (nb rfl) e3 ?_⟩
   exact Does.is (d_seql (a := ((pgD ((dataL lb 4) ++ ((pgE (dataL la 48)).drop 4))).2)) (c := (dataL la 48)) e6 e9 (decide_eq_true (by rw [pg_mark (dataL_length la 48) (dataL_length lb 4), if_neg d0])))
  refine ls_cons ?_ ?_
  ·
   intro v57 lo hi w_ k_ hO hd _ _ hk_ _ hR hold
   obtain ⟨r_a52, r_a38⟩ := hR
   have e10 : v57 10 = (Value.bool true) := hd 10 (by kernel_rfl)
   have e3 : v57 3 = (Value.bool true) := hd 3 (by kernel_rfl)
   clear hd hold
   refine ⟨_, rfl, gd rfl ?_⟩
   exact Does.is (d_pick (b := true) (v := (Value.bool true)) e3 e10)
  refine ls_cons ?_ ?_
  ·
   intro v57 lo hi w_ k_ hO hd _ _ hk_ _ hR hold
   obtain ⟨r_a52, r_a38⟩ := hR
   have e11 : v57 11 = (Value.bool true) := hd 11 (by kernel_rfl)
   clear hd hold
   refine ⟨_, rfl, gd rfl ?_⟩
   exact Does.is (d_assign (v := (Value.bool true)) e11)
  exact ls_nil
 ·
  exact ms_nil
 intro v57 lo_ hi_ w58 o59 hd iv_ hR
 have e0 : v57 0 = (ptr b46 0) := hd 0 (by decide)
 have e1 : v57 1 = (eN ((pgD ((dataL lb 4) ++ ((pgE (dataL la 48)).drop 4))).1)) := hd 1 (by decide)
 have e2 : v57 2 = (Value.bool true) := hd 2 (by decide)
 have e3 : v57 3 = (Value.bool true) := hd 3 (by decide)
 have e4 : v57 4 = (ptr b46 1) := hd 4 (by decide)
 have e5 : v57 5 = u44 := hd 5 (by decide)
 have e6 : v57 6 = (Value.string (strOf ((pgD ((dataL lb 4) ++ ((pgE (dataL la 48)).drop 4))).2))) := hd 6 (by decide)
 have e7 : v57 7 = u1 := hd 7 (by decide)
 have e9 : v57 9 = (Value.string (strOf (dataL la 48))) := hd 9 (by decide)
 have e10 : v57 10 = (Value.bool true) := hd 10 (by decide)
 have e11 : v57 11 = (Value.bool true) := hd 11 (by decide)
 have e12 : v57 12 = (Value.bool true) := hd 12 (by decide)
 have f_v57_8 : Ps (Or1 b46 (Orq bo37 (Old W.heap.size))) (Seq kB (dataL la 48) (v57 8)) w58 := hd 8 (by decide)
 clear hd iv_ lo_ hi_
 refine fr_eq (l' := ([u1, (zf41 1), (zf41 2), (zf41 3), (Value.bool true), (zf41 5), u27, u35, (ptr b46 0)] ++ (zs zf41 9 24 ++ [u35, (Value.agg #[(eN ((pgD ((dataL lb 4) ++ ((pgE (dataL la 48)).drop 4))).1)), u44]), u27, (eN (onesN (dataL lb 4))), (Value.bool (decide (16 < (onesN (dataL lb 4)))))] ++ (zs zf41 38 9 ++ [(ptr b46 0), (eN ((pgD ((dataL lb 4) ++ ((pgE (dataL la 48)).drop 4))).1)), (Value.bool true), (Value.bool true), (ptr b46 1), u44, (Value.string (strOf ((pgD ((dataL lb 4) ++ ((pgE (dataL la 48)).drop 4))).2))), u1, (v57 8), (Value.string (strOf (dataL la 48))), (Value.bool true), (Value.bool true)])))) (by rw [e0, e1, e2, e3, e4, e5, e6, e7, e9, e10, e11, e12] <;> rfl) ?_
 clear e0 e1 e2 e3 e4 e5 e6 e7 e9 e10 e11 e12
 replace h1 := h1.step o59 (or1_mono (orq_mono no_any))
 replace h2 := h2.step o59 (or1_mono (orq_mono no_any))
 replace f16 := f16.step o59 (or1_mono (orq_mono no_any))
 replace f20 := f20.step o59 (or1_mono (orq_mono no_any))
 replace f_v21_5 := f_v21_5.step o59 (or1_mono (orq_mono no_any))
 replace f_v21_7 := f_v21_7.step o59 (or1_mono (orq_mono no_any))
 replace f28 := f28.step o59 (or1_mono (orq_mono no_any))
 replace f_v29_4 := f_v29_4.step o59 (or1_mono (orq_mono no_any))
 replace f45 := f45.step o59 (or1_mono (orq_mono no_any))
 obtain ⟨xr_a52, xr_a38⟩ := hR
 replace a52 : Arr 32 b46 [(eN ((pgD ((dataL lb 4) ++ ((pgE (dataL la 48)).drop 4))).1)), u44] w58 := xr_a52
 replace a38 : Ow 5 1 bo37 u35 ((dataL lb 4) ++ ((pgE (dataL la 48)).drop 4)).length (((dataL lb 4) ++ ((pgE (dataL la 48)).drop 4)).map eB) w58 := xr_a38
 clear xr_a52 xr_a38
 replace oW := oW.tail o59 (tl_new g_oW_b46 (tl_q q_oW_c (fun _ e => by cases e) tl_no))
 refine then_n ?_
 refine forget (fun zf60 => ([(zf60 0), (zf60 1), (zf60 2), (zf60 3), (Value.bool true)] ++ (zs zf60 5 54))) (by kernel_rfl) (fun zf60 => ?_)
 refine wpIn_ret ?_
 refine leave0 (v := (Value.bool true)) (res1 Try.results7 rfl) ?_
 exact ⟨rfl, oW⟩

end Go.Proofs.YtgalehapmdabeaaF
