import Derived.Test.YtpamdlnobekihaaHnand2
set_option linter.unusedVariables false
set_option linter.unusedSimpArgs false
namespace Go.Proofs.YtpamdlnobekihaaF
open Go Go.Shelf Go.Proofs.YtpamdlnobekihaaS Ram
set_option maxRecDepth 20000 in
set_option maxHeartbeats 1000000 in
theorem new0_ok (D B Q : Nat) (W : World) (hD : 6 ≤ D ∧ D ≤ 8) (hB : 8 ≤ B ∧ B ≤ 12) (hQ : 4 ≤ Q ∧ Q ≤ 8) :
    CW Try.prog 13 #[(Value.agg #[(eN D), (eN B), (eN Q)]), (Value.slice none 0 0)] W (Rt (fun u w => ∃ L, u = .tuple #[ptr L.bN 0, eN 0] ∧ (Nd L (NS.new D B Q (fun _ _ => false)) (Old W.heap.size) w ∧ ∀ k, L.S k → W.heap.size ≤ k) ∧ Only No W w)) := by
 have oW : Only No W W := Only.refl _ _
 refine enter (al := [(Value.agg #[(eN D), (eN B), (eN Q)]), (Value.slice none 0 0)]) (k := 80) (l := ([(Value.agg #[(eN D), (eN B), (eN Q)]), (Value.slice none 0 0)] ++ (us 80))) Try.func13 rfl Try.ntmps13 rfl rfl ?_
 have m1_ : D * B ≤ 8 * 12 := Nat.mul_le_mul hD.2 hB.2
 have m2_ : D * B * Q ≤ 8 * 12 * 8 := Nat.mul_le_mul m1_ hQ.2
 refine wpIn_seq ?_
 refine plain ?_
 refine wO (d_box rfl rfl) ?_
 rintro _ w11 ⟨gb, rfl, g12, a13, o14⟩
 have g_oW_gb : W.heap.size ≤ gb := Nat.le_trans oW.size g12
 replace oW := oW.tail0 o14
 refine wI (d_assign rfl) ?_
 refine wI (d_assign rfl) ?_
 refine wF ([(Value.agg #[(eN D), (eN B), (eN Q)]), (Value.slice none 0 0), (ptr gb 0), undef, (Value.pointer none), (eN 0)] ++ (us 76)) ?_
 refine wpL.done ?_
 refine then_n ?_
 refine wpIn_seq ?_
 refine wpIn_seq ?_
 refine plain ?_
 refine wI (d_loadAg (vs := [(eN D), (eN B), (eN Q)]) ⟨_, Try.underlying23, rfl⟩ s_ti23 rfl a13 rfl rfl) ?_
 refine wO (d_call (xl := [.tmp 10]) (al := [(Value.agg #[(eN D), (eN B), (eN Q)])]) Try.func36 (by kernel_rfl) rfl rfl rfl (fits_ok D B Q _ (by omega) (by omega) (by omega))) ?_
 rintro _ w15 ⟨rfl, o16⟩
 replace a13 := a13.step0 o16
 replace oW := oW.tail0 o16
 refine wI (d_not rfl rfl) ?_
 refine wF ([(Value.agg #[(eN D), (eN B), (eN Q)]), (Value.slice none 0 0), (ptr gb 0), undef, (Value.pointer none), (eN 0), undef, undef, undef, undef, (Value.agg #[(eN D), (eN B), (eN Q)]), (Value.bool true), (Value.bool false)] ++ (us 69)) ?_
 refine wpL.done ?_
 refine then_n ?_
 refine cond_f rfl ?_
 refine wpIn_skip ?_
 refine then_n ?_
 refine wpIn_seq ?_
 have hX0_ : ∀ k, (Or1 gb (Old W.heap.size)) k → k < w15.heap.size := (lt_or1 a13.lt (fun k t => Nat.lt_of_lt_of_le t oW.size))
 have hO0_ : ∀ k, (Or1 gb No) k → k < w15.heap.size := fun k h => hX0_ k ((or1_mono no_any) k h)
 refine drawnT (O := (Or1 gb No)) (n := 8) 5 [0, 0, 2, 0, 14, 31, 63, 127] [(0, 13), (1, 14), (2, 15), (3, 16), (4, 17), (5, 18), (6, 19), (7, 6)] [(0, 13), (1, 14), (2, 15), (3, 16), (4, 17)] [0, 1, 2, 3, 4] [] (fun i_ => ([RF.is (Or1 gb No) (Value.agg #[(eN D), (eN B), (eN Q)]), RF.is (Or1 gb No) (Value.agg #[(eN D), (eN B), (eN Q)]), RF.mk_ (Or1 gb No) (fun b_ => (Value.agg #[(eN D), (eN B), (eN Q), (sli b_ 0 (D * B * Q) (D * B * Q))])) 36 (List.replicate (D * B * Q) (Value.slice none 0 0)) w15.heap.size hO0_, RF.is (Or1 gb No) (Value.agg #[(eN D), (eN B), (eN Q)]), RF.mk_ (Or1 gb No) (fun b_ => (Value.agg #[(eN D), (eN B), (eN Q), (sli b_ 0 (D * B * Q) (D * B * Q))])) 37 (List.replicate (D * B * Q) (Value.slice none 0 0)) w15.heap.size hO0_] : List (RF (Or1 gb No))).getD i_ (RF.any (Or1 gb No))) (fun _ w_ => Arr 23 gb [(eN D), (eN B), (eN Q)] w_) (fun v17 => ([(Value.agg #[(eN D), (eN B), (eN Q)]), (Value.slice none 0 0), (ptr gb 0), undef, (Value.pointer none), (eN 0), (v17 7), undef, undef, undef, (Value.agg #[(eN D), (eN B), (eN Q)]), (Value.bool true), (Value.bool false), (v17 0), (v17 1), (v17 2), (v17 3), (v17 4), (v17 5), (v17 6)] ++ (us 62))) (fun v17 => ([(Value.agg #[(eN D), (eN B), (eN Q)]), (Value.slice none 0 0), (ptr gb 0), undef, (Value.pointer none), (eN 0), undef, undef, undef, undef, (Value.agg #[(eN D), (eN B), (eN Q)]), (Value.bool true), (Value.bool false), (v17 0), (v17 1), (v17 2), (v17 3), (v17 4)] ++ (us 64))) s_mx (by kernel_rfl) rfl (by decide) (by rfl) (by kernel_rfl) (by kernel_rfl) (by kernel_rfl) (by rfl) (fun v_ => by kernel_rfl) (fun v_ => by kernel_rfl) (fun _ => fun w_ w2_ h ho => by have r_a13 := h; exact r_a13.step0 ho) a13 ?_ ?_ ?_
 ·
  refine ls_cons ?_ ?_
  ·
   intro v17 lo hi w_ k_ hO hd _ _ hk_ _ hR hold
   have r_a13 := hR
   clear hd hold
   refine ⟨_, rfl, gd rfl ?_⟩
   exact Does.is (d_loadAg (vs := [(eN D), (eN B), (eN Q)]) ⟨_, Try.underlying23, rfl⟩ s_ti23 rfl r_a13 rfl rfl)
  refine ls_cons ?_ ?_
  ·
   intro v17 lo hi w_ k_ hO hd _ _ hk_ _ hR hold
   have r_a13 := hR
   clear hd hold
   refine ⟨_, rfl, gd rfl ?_⟩
   exact Does.is (d_loadAg (vs := [(eN D), (eN B), (eN Q)]) ⟨_, Try.underlying23, rfl⟩ s_ti23 rfl r_a13 rfl rfl)
  refine ls_cons ?_ ?_
  ·
   intro v17 lo hi w_ k_ hO hd _ _ hk_ _ hR hold
   have r_a13 := hR
   have e1 : v17 1 = (Value.agg #[(eN D), (eN B), (eN Q)]) := hd 1 (by kernel_rfl)
   clear hd hold
   refine ⟨_, rfl, gd rfl ?_⟩
   refine Does.mono (R := Made 36 w_ (fun b_ => (Value.agg #[(eN D), (eN B), (eN Q), (sli b_ 0 (D * B * Q) (D * B * Q))])) (List.replicate (D * B * Q) (Value.slice none 0 0))) ?_ (fun u w' h => by obtain ⟨b_, rfl, hb_, hA_, hO_⟩ := h; exact ⟨⟨b_, rfl, hA_, Nat.le_trans hO.size hb_⟩, hO_⟩)
   exact d_call (xl := [.tmp 14]) (al := [(Value.agg #[(eN D), (eN B), (eN Q)])]) Try.func37 (by kernel_rfl) rfl (show ([(v17 1)] : List Value) = [(Value.agg #[(eN D), (eN B), (eN Q)])] from by rw [e1]) rfl (noneD_ok D B Q _ (by omega) (by omega) (by omega))
  refine ls_cons ?_ ?_
  ·
   intro v17 lo hi w_ k_ hO hd _ _ hk_ _ hR hold
   have r_a13 := hR
   clear hd hold
   refine ⟨_, rfl, gd rfl ?_⟩
   exact Does.is (d_loadAg (vs := [(eN D), (eN B), (eN Q)]) ⟨_, Try.underlying23, rfl⟩ s_ti23 rfl r_a13 rfl rfl)
  refine ls_cons ?_ ?_
  ·
   intro v17 lo hi w_ k_ hO hd _ _ hk_ _ hR hold
   have r_a13 := hR
   have e3 : v17 3 = (Value.agg #[(eN D), (eN B), (eN Q)]) := hd 3 (by kernel_rfl)
   clear hd hold
   refine ⟨_, rfl, gd rfl ?_⟩
   refine Does.mono (R := Made 37 w_ (fun b_ => (Value.agg #[(eN D), (eN B), (eN Q), (sli b_ 0 (D * B * Q) (D * B * Q))])) (List.replicate (D * B * Q) (Value.slice none 0 0))) ?_ (fun u w' h => by obtain ⟨b_, rfl, hb_, hA_, hO_⟩ := h; exact ⟨⟨b_, rfl, hA_, Nat.le_trans hO.size hb_⟩, hO_⟩)
   exact d_call (xl := [.tmp 16]) (al := [(Value.agg #[(eN D), (eN B), (eN Q)])]) Try.func38 (by kernel_rfl) rfl (show ([(v17 3)] : List Value) = [(Value.agg #[(eN D), (eN B), (eN Q)])] from by rw [e3]) rfl (noneZ_ok D B Q _ (by omega) (by omega) (by omega))
  exact ls_nil
 ·
  exact ms_nil
 intro v17 lo_ hi_ w18 o19 hd iv_ hR
 have e0 : v17 0 = (Value.agg #[(eN D), (eN B), (eN Q)]) := hd 0 (by decide)
 have e1 : v17 1 = (Value.agg #[(eN D), (eN B), (eN Q)]) := hd 1 (by decide)
 have e3 : v17 3 = (Value.agg #[(eN D), (eN B), (eN Q)]) := hd 3 (by decide)
 obtain ⟨db, e2, a20, g21⟩ : ∃ b_, v17 2 = (fun b_ => (Value.agg #[(eN D), (eN B), (eN Q), (sli b_ 0 (D * B * Q) (D * B * Q))])) b_ ∧ Arr 36 b_ (List.replicate (D * B * Q) (Value.slice none 0 0)) w18 ∧ w15.heap.size ≤ b_ := hd 2 (by decide)
 dsimp only at e2
 have n_gb_db : gb ≠ db := a13.ne g21
 have g_oW_db : W.heap.size ≤ db := Nat.le_trans oW.size g21
 obtain ⟨zb, e4, a22, g23⟩ : ∃ b_, v17 4 = (fun b_ => (Value.agg #[(eN D), (eN B), (eN Q), (sli b_ 0 (D * B * Q) (D * B * Q))])) b_ ∧ Arr 37 b_ (List.replicate (D * B * Q) (Value.slice none 0 0)) w18 ∧ w15.heap.size ≤ b_ := hd 4 (by decide)
 dsimp only at e4
 have n_gb_zb : gb ≠ zb := a13.ne g23
 have g_oW_zb : W.heap.size ≤ zb := Nat.le_trans oW.size g23
 have n_db_zb : db ≠ zb := arr_ne a20 a22 (by decide)
 clear hd iv_ lo_ hi_
 refine wpL.flat ([(Value.agg #[(eN D), (eN B), (eN Q)]), (Value.slice none 0 0), (ptr gb 0), undef, (Value.pointer none), (eN 0), undef, undef, undef, undef, (Value.agg #[(eN D), (eN B), (eN Q)]), (Value.bool true), (Value.bool false), (Value.agg #[(eN D), (eN B), (eN Q)]), (Value.agg #[(eN D), (eN B), (eN Q)]), (Value.agg #[(eN D), (eN B), (eN Q), (sli db 0 (D * B * Q) (D * B * Q))]), (Value.agg #[(eN D), (eN B), (eN Q)]), (Value.agg #[(eN D), (eN B), (eN Q), (sli zb 0 (D * B * Q) (D * B * Q))])] ++ (us 64)) (by rw [e0, e1, e3, e2, e4] <;> rfl) ?_
 clear e0 e1 e3 e2 e4
 replace a13 : Arr 23 gb [(eN D), (eN B), (eN Q)] w18 := hR
 clear hR
 replace oW := oW.tail o19 (tl_new g_oW_gb tl_no)
 refine wI (d_buildS (pl := [(0, 3), (3, 4), (7, 4), (11, 1), (12, 1), (13, 1), (14, 1), (15, 1), (16, 1)]) (zs := [(eN 0), (eN 0), (eN 0), (eN 0), (eN 0), (eN 0), (Value.slice none 0 0), (eN 0), (eN 0), (eN 0), (Value.slice none 0 0), (Value.slice none 0 0), (eN 0), (Value.slice none 0 0), (Value.bool false), (eN 0), (eN 0)]) (cs := [(eN D), (eN B), (eN Q), (eN D), (eN B), (eN Q), (sli db 0 (D * B * Q) (D * B * Q)), (eN D), (eN B), (eN Q), (sli zb 0 (D * B * Q) (D * B * Q)), (Value.slice none 0 0), (eN 0), (Value.slice none 0 0), (Value.bool false), (eN 0), (eN 0)]) Try.underlying73 s_ti73 ⟨_, _, _, _, rfl, s_ti23, ⟨_, _, _, _, rfl, s_ti65, ⟨_, _, _, _, rfl, s_ti69, ⟨_, _, _, _, rfl, s_ti71, ⟨_, _, _, _, rfl, s_ti3, ⟨_, _, _, _, rfl, s_ti36, ⟨_, _, _, _, rfl, s_ti4, ⟨_, _, _, _, rfl, s_ti3, ⟨_, _, _, _, rfl, s_ti3, rfl⟩⟩⟩⟩⟩⟩⟩⟩⟩ rfl (parts_cons (vs := [(eN D), (eN B), (eN Q)]) (cells_of (v := (Value.agg #[(eN D), (eN B), (eN Q)])) rfl rfl) (parts_cons (vs := [(eN D), (eN B), (eN Q), (sli db 0 (D * B * Q) (D * B * Q))]) (cells_of (v := (Value.agg #[(eN D), (eN B), (eN Q), (sli db 0 (D * B * Q) (D * B * Q))])) rfl rfl) (parts_cons (vs := [(eN D), (eN B), (eN Q), (sli zb 0 (D * B * Q) (D * B * Q))]) (cells_of (v := (Value.agg #[(eN D), (eN B), (eN Q), (sli zb 0 (D * B * Q) (D * B * Q))])) rfl rfl) parts_nil))) rfl) ?_
 refine wF ([(Value.agg #[(eN D), (eN B), (eN Q)]), (Value.slice none 0 0), (ptr gb 0), undef, (Value.pointer none), (eN 0), undef, undef, undef, undef, (Value.agg #[(eN D), (eN B), (eN Q)]), (Value.bool true), (Value.bool false), (Value.agg #[(eN D), (eN B), (eN Q)]), (Value.agg #[(eN D), (eN B), (eN Q)]), (Value.agg #[(eN D), (eN B), (eN Q), (sli db 0 (D * B * Q) (D * B * Q))]), (Value.agg #[(eN D), (eN B), (eN Q)]), (Value.agg #[(eN D), (eN B), (eN Q), (sli zb 0 (D * B * Q) (D * B * Q))]), (Value.agg #[(eN D), (eN B), (eN Q), (eN D), (eN B), (eN Q), (sli db 0 (D * B * Q) (D * B * Q)), (eN D), (eN B), (eN Q), (sli zb 0 (D * B * Q) (D * B * Q)), (Value.slice none 0 0), (eN 0), (Value.slice none 0 0), (Value.bool false), (eN 0), (eN 0)])] ++ (us 63)) ?_
 refine wO (d_box rfl rfl) ?_
 rintro _ w24 ⟨cb, rfl, g25, a26, o27⟩
 have n_gb_cb : gb ≠ cb := a13.ne g25
 have n_db_cb : db ≠ cb := a20.ne g25
 have n_zb_cb : zb ≠ cb := a22.ne g25
 have g_oW_cb : W.heap.size ≤ cb := Nat.le_trans oW.size g25
 replace a13 := a13.step0 o27
 replace a20 := a20.step0 o27
 replace a22 := a22.step0 o27
 replace oW := oW.tail0 o27
 refine wI (d_assign rfl) ?_
 refine wF ([(Value.agg #[(eN D), (eN B), (eN Q)]), (Value.slice none 0 0), (ptr gb 0), undef, (Value.pointer none), (eN 0), (ptr cb 0), undef, undef, undef, (Value.agg #[(eN D), (eN B), (eN Q)]), (Value.bool true), (Value.bool false), (Value.agg #[(eN D), (eN B), (eN Q)]), (Value.agg #[(eN D), (eN B), (eN Q)]), (Value.agg #[(eN D), (eN B), (eN Q), (sli db 0 (D * B * Q) (D * B * Q))]), (Value.agg #[(eN D), (eN B), (eN Q)]), (Value.agg #[(eN D), (eN B), (eN Q), (sli zb 0 (D * B * Q) (D * B * Q))]), (Value.agg #[(eN D), (eN B), (eN Q), (eN D), (eN B), (eN Q), (sli db 0 (D * B * Q) (D * B * Q)), (eN D), (eN B), (eN Q), (sli zb 0 (D * B * Q) (D * B * Q)), (Value.slice none 0 0), (eN 0), (Value.slice none 0 0), (Value.bool false), (eN 0), (eN 0)]), (ptr cb 0)] ++ (us 62)) ?_
 refine wpL.done ?_
 refine then_n ?_
 refine wpIn_seq ?_
 refine wpIn_seq ?_
 refine plain ?_
 refine wI (d_move rfl) ?_
 refine wI (d_nilCheck (b := cb) (o := 0) rfl) ?_
 refine wI (d_fieldAddr (j := 3) Try.underlying73 rfl s_ti65 (by decide) rfl rfl) ?_
 refine wF ([(Value.agg #[(eN D), (eN B), (eN Q)]), (Value.slice none 0 0), (ptr gb 0), undef, (Value.pointer none), (eN 0), (ptr cb 0), undef, undef, undef, (Value.agg #[(eN D), (eN B), (eN Q)]), (Value.bool true), (Value.bool false), (Value.agg #[(eN D), (eN B), (eN Q)]), (Value.agg #[(eN D), (eN B), (eN Q)]), (Value.agg #[(eN D), (eN B), (eN Q), (sli db 0 (D * B * Q) (D * B * Q))]), (Value.agg #[(eN D), (eN B), (eN Q)]), (Value.agg #[(eN D), (eN B), (eN Q), (sli zb 0 (D * B * Q) (D * B * Q))]), (Value.agg #[(eN D), (eN B), (eN Q), (eN D), (eN B), (eN Q), (sli db 0 (D * B * Q) (D * B * Q)), (eN D), (eN B), (eN Q), (sli zb 0 (D * B * Q) (D * B * Q)), (Value.slice none 0 0), (eN 0), (Value.slice none 0 0), (Value.bool false), (eN 0), (eN 0)]), (ptr cb 0), (ptr cb 0), (ptr cb 0), (ptr cb 3)] ++ (us 59)) ?_
 refine wI (d_fieldAddr (j := 6) Try.underlying65 rfl s_ti63 (by decide) rfl rfl) ?_
 refine wI (d_load (v := (sli db 0 (D * B * Q) (D * B * Q))) ⟨_, Try.underlying63, rfl⟩ rfl a26 rfl) ?_
 refine wI (d_len rfl Try.underlying63 rfl) ?_
 refine wF ([(Value.agg #[(eN D), (eN B), (eN Q)]), (Value.slice none 0 0), (ptr gb 0), undef, (Value.pointer none), (eN 0), (ptr cb 0), undef, undef, undef, (Value.agg #[(eN D), (eN B), (eN Q)]), (Value.bool true), (Value.bool false), (Value.agg #[(eN D), (eN B), (eN Q)]), (Value.agg #[(eN D), (eN B), (eN Q)]), (Value.agg #[(eN D), (eN B), (eN Q), (sli db 0 (D * B * Q) (D * B * Q))]), (Value.agg #[(eN D), (eN B), (eN Q)]), (Value.agg #[(eN D), (eN B), (eN Q), (sli zb 0 (D * B * Q) (D * B * Q))]), (Value.agg #[(eN D), (eN B), (eN Q), (eN D), (eN B), (eN Q), (sli db 0 (D * B * Q) (D * B * Q)), (eN D), (eN B), (eN Q), (sli zb 0 (D * B * Q) (D * B * Q)), (Value.slice none 0 0), (eN 0), (Value.slice none 0 0), (Value.bool false), (eN 0), (eN 0)]), (ptr cb 0), (ptr cb 0), (ptr cb 0), (ptr cb 3), (ptr cb 6), (sli db 0 (D * B * Q) (D * B * Q)), (eN (D * B * Q))] ++ (us 56)) ?_
 refine wI (d_move rfl) ?_
 refine wF ([(Value.agg #[(eN D), (eN B), (eN Q)]), (Value.slice none 0 0), (ptr gb 0), undef, (Value.pointer none), (eN 0), (ptr cb 0), undef, undef, undef, (Value.agg #[(eN D), (eN B), (eN Q)]), (Value.bool true), (Value.bool false), (Value.agg #[(eN D), (eN B), (eN Q)]), (Value.agg #[(eN D), (eN B), (eN Q)]), (Value.agg #[(eN D), (eN B), (eN Q), (sli db 0 (D * B * Q) (D * B * Q))]), (Value.agg #[(eN D), (eN B), (eN Q)]), (Value.agg #[(eN D), (eN B), (eN Q), (sli zb 0 (D * B * Q) (D * B * Q))]), (Value.agg #[(eN D), (eN B), (eN Q), (eN D), (eN B), (eN Q), (sli db 0 (D * B * Q) (D * B * Q)), (eN D), (eN B), (eN Q), (sli zb 0 (D * B * Q) (D * B * Q)), (Value.slice none 0 0), (eN 0), (Value.slice none 0 0), (Value.bool false), (eN 0), (eN 0)]), (ptr cb 0), (ptr cb 0), (ptr cb 0), (ptr cb 3), (ptr cb 6), (sli db 0 (D * B * Q) (D * B * Q)), (eN (D * B * Q)), (eN 0)] ++ (us 55)) ?_
 refine wpL.done ?_
 refine then_n ?_
 refine wpIn_block ?_
 replace a20 : Arr 36 db ((List.replicate (D * B * Q) (Value.slice none 0 0)).map eV) w24 := by rw [map_eV]; exact a20
 have l_db : (List.replicate (D * B * Q) (Value.slice none 0 0)).length = D * B * Q := List.length_replicate
 refine loop2 (fun (s_ : (Nat) × (List Value)) => match s_ with | ⟨i, vd⟩ => fun (z : Nat → Value) => (([(Value.agg #[(eN D), (eN B), (eN Q)]), (Value.slice none 0 0), (ptr gb 0), undef, (Value.pointer none), (eN 0), (ptr cb 0), (z 7), undef, undef, (Value.agg #[(eN D), (eN B), (eN Q)]), (Value.bool true), (Value.bool false), (Value.agg #[(eN D), (eN B), (eN Q)]), (Value.agg #[(eN D), (eN B), (eN Q)]), (Value.agg #[(eN D), (eN B), (eN Q), (sli db 0 (D * B * Q) (D * B * Q))]), (Value.agg #[(eN D), (eN B), (eN Q)]), (Value.agg #[(eN D), (eN B), (eN Q), (sli zb 0 (D * B * Q) (D * B * Q))]), (Value.agg #[(eN D), (eN B), (eN Q), (eN D), (eN B), (eN Q), (sli db 0 (D * B * Q) (D * B * Q)), (eN D), (eN B), (eN Q), (sli zb 0 (D * B * Q) (D * B * Q)), (Value.slice none 0 0), (eN 0), (Value.slice none 0 0), (Value.bool false), (eN 0), (eN 0)]), (ptr cb 0), (ptr cb 0), (ptr cb 0), (ptr cb 3), (ptr cb 6), (sli db 0 (D * B * Q) (D * B * Q)), (eN (D * B * Q)), (eN i)] ++ (zs z 27 11 ++ (us 44))) : List Value)) (fun (s_ : (Nat) × (List Value)) => match s_ with | ⟨i, vd⟩ => fun (w_ : World) => (i ≤ D * B * Q) ∧ (Ps (Or1 cb (Or1 zb (Or1 db (Or1 gb (Old W.heap.size))))) (Fam kB i (fun _ => onesW) vd) w_) ∧ Only (Or1 cb (Or1 zb (Or1 db (Or1 gb No)))) w24 w_ ∧ Arr 23 gb [(eN D), (eN B), (eN Q)] w_ ∧ vd.length = D * B * Q ∧ Arr 36 db (vd.map eV) w_ ∧ Arr 37 zb (List.replicate (D * B * Q) (Value.slice none 0 0)) w_ ∧ Arr 73 cb [(eN D), (eN B), (eN Q), (eN D), (eN B), (eN Q), (sli db 0 (D * B * Q) (D * B * Q)), (eN D), (eN B), (eN Q), (sli zb 0 (D * B * Q) (D * B * Q)), (Value.slice none 0 0), (eN 0), (Value.slice none 0 0), (Value.bool false), (eN 0), (eN 0)] w_) (fun (s_ : (Nat) × (List Value)) => match s_ with | ⟨i, vd⟩ => D * B * Q - i) ⟨0, (List.replicate (D * B * Q) (Value.slice none 0 0))⟩ rfl ?_ ?_
 ·
  refine ⟨?_, ?_, ?_, ?_, ?_, ?_, ?_, ?_⟩
  ·
   exact Nat.zero_le _
  ·
   exact fun w' _ k hk => absurd hk (Nat.not_lt_zero k)
  ·
   exact Only.refl _ _
  ·
   exact a13
  ·
   exact l_db
  ·
   exact a20
  ·
   exact a22
  ·
   exact a26
 rintro ⟨i, vd⟩ z w29 ⟨hi, hF, o28, a13, l_db, a20, a22, a26⟩
 (try dsimp only)
 replace oW := oW.tail o28 (tl_new g_oW_cb (tl_new g_oW_zb (tl_new g_oW_db (tl_new g_oW_gb tl_no))))
 refine wpIn_seq ?_
 refine plain ?_
 refine wI (n_lss (a := i) (b := (D * B * Q)) rfl rfl rfl) ?_
 refine wF ([(Value.agg #[(eN D), (eN B), (eN Q)]), (Value.slice none 0 0), (ptr gb 0), undef, (Value.pointer none), (eN 0), (ptr cb 0), (z 7), undef, undef, (Value.agg #[(eN D), (eN B), (eN Q)]), (Value.bool true), (Value.bool false), (Value.agg #[(eN D), (eN B), (eN Q)]), (Value.agg #[(eN D), (eN B), (eN Q)]), (Value.agg #[(eN D), (eN B), (eN Q), (sli db 0 (D * B * Q) (D * B * Q))]), (Value.agg #[(eN D), (eN B), (eN Q)]), (Value.agg #[(eN D), (eN B), (eN Q), (sli zb 0 (D * B * Q) (D * B * Q))]), (Value.agg #[(eN D), (eN B), (eN Q), (eN D), (eN B), (eN Q), (sli db 0 (D * B * Q) (D * B * Q)), (eN D), (eN B), (eN Q), (sli zb 0 (D * B * Q) (D * B * Q)), (Value.slice none 0 0), (eN 0), (Value.slice none 0 0), (Value.bool false), (eN 0), (eN 0)]), (ptr cb 0), (ptr cb 0), (ptr cb 0), (ptr cb 3), (ptr cb 6), (sli db 0 (D * B * Q) (D * B * Q)), (eN (D * B * Q)), (eN i), (Value.bool (decide (i < (D * B * Q))))] ++ (zs z 28 10 ++ (us 44))) ?_
 refine wpL.done ?_
 refine then_n ?_
 refine wpIn_seq ?_
 refine cond_if rfl (fun c30 => ?_) (fun c30 => ?_)
 ·
  refine wpIn_skip ?_
  refine then_n ?_
  refine wpIn_seq ?_
  refine wpIn_block ?_
  refine wpIn_seq ?_
  refine plain ?_
  refine wI (d_move rfl) ?_
  refine wI (d_assign rfl) ?_
  refine wF ([(Value.agg #[(eN D), (eN B), (eN Q)]), (Value.slice none 0 0), (ptr gb 0), undef, (Value.pointer none), (eN 0), (ptr cb 0), (eN i), undef, undef, (Value.agg #[(eN D), (eN B), (eN Q)]), (Value.bool true), (Value.bool false), (Value.agg #[(eN D), (eN B), (eN Q)]), (Value.agg #[(eN D), (eN B), (eN Q)]), (Value.agg #[(eN D), (eN B), (eN Q), (sli db 0 (D * B * Q) (D * B * Q))]), (Value.agg #[(eN D), (eN B), (eN Q)]), (Value.agg #[(eN D), (eN B), (eN Q), (sli zb 0 (D * B * Q) (D * B * Q))]), (Value.agg #[(eN D), (eN B), (eN Q), (eN D), (eN B), (eN Q), (sli db 0 (D * B * Q) (D * B * Q)), (eN D), (eN B), (eN Q), (sli zb 0 (D * B * Q) (D * B * Q)), (Value.slice none 0 0), (eN 0), (Value.slice none 0 0), (Value.bool false), (eN 0), (eN 0)]), (ptr cb 0), (ptr cb 0), (ptr cb 0), (ptr cb 3), (ptr cb 6), (sli db 0 (D * B * Q) (D * B * Q)), (eN (D * B * Q)), (eN i), (Value.bool (decide (i < (D * B * Q)))), (eN i)] ++ (zs z 29 9 ++ (us 44))) ?_
  refine wpL.done ?_
  refine then_n ?_
  refine drawnT (O := (Or1 cb (Or1 zb (Or1 db (Or1 gb No))))) (n := 9) 7 [0, 1, 3, 7, 15, 0, 0, 127, 255] [(0, 29), (1, 30), (2, 31), (3, 32), (4, 33), (5, 34), (6, 35), (7, 36)] [(0, 29), (1, 30), (2, 31), (3, 32), (4, 33), (5, 34), (6, 35)] [0, 1, 2, 3, 4, 5, 6] [] (fun i_ => ([RF.is (Or1 cb (Or1 zb (Or1 db (Or1 gb No)))) (ptr cb 0), RF.is (Or1 cb (Or1 zb (Or1 db (Or1 gb No)))) (ptr cb 0), RF.is (Or1 cb (Or1 zb (Or1 db (Or1 gb No)))) (ptr cb 3), RF.is (Or1 cb (Or1 zb (Or1 db (Or1 gb No)))) (ptr cb 6), RF.is (Or1 cb (Or1 zb (Or1 db (Or1 gb No)))) (sli db 0 (D * B * Q) (D * B * Q)), RF.is (Or1 cb (Or1 zb (Or1 db (Or1 gb No)))) (eN i), RF.ps (Or1 cb (Or1 zb (Or1 db (Or1 gb No)))) (Or1 cb (Or1 zb (Or1 db (Or1 gb (Old W.heap.size))))) (Seq kB onesW) (or1_mono (or1_mono (or1_mono (or1_mono no_any))))] : List (RF (Or1 cb (Or1 zb (Or1 db (Or1 gb No)))))).getD i_ (RF.any (Or1 cb (Or1 zb (Or1 db (Or1 gb No)))))) (fun _ w_ => Arr 23 gb [(eN D), (eN B), (eN Q)] w_ ∧ Arr 36 db (vd.map eV) w_ ∧ Arr 37 zb (List.replicate (D * B * Q) (Value.slice none 0 0)) w_ ∧ Arr 73 cb [(eN D), (eN B), (eN Q), (eN D), (eN B), (eN Q), (sli db 0 (D * B * Q) (D * B * Q)), (eN D), (eN B), (eN Q), (sli zb 0 (D * B * Q) (D * B * Q)), (Value.slice none 0 0), (eN 0), (Value.slice none 0 0), (Value.bool false), (eN 0), (eN 0)] w_) (fun v31 => ([(Value.agg #[(eN D), (eN B), (eN Q)]), (Value.slice none 0 0), (ptr gb 0), undef, (Value.pointer none), (eN 0), (ptr cb 0), (eN i), undef, undef, (Value.agg #[(eN D), (eN B), (eN Q)]), (Value.bool true), (Value.bool false), (Value.agg #[(eN D), (eN B), (eN Q)]), (Value.agg #[(eN D), (eN B), (eN Q)]), (Value.agg #[(eN D), (eN B), (eN Q), (sli db 0 (D * B * Q) (D * B * Q))]), (Value.agg #[(eN D), (eN B), (eN Q)]), (Value.agg #[(eN D), (eN B), (eN Q), (sli zb 0 (D * B * Q) (D * B * Q))]), (Value.agg #[(eN D), (eN B), (eN Q), (eN D), (eN B), (eN Q), (sli db 0 (D * B * Q) (D * B * Q)), (eN D), (eN B), (eN Q), (sli zb 0 (D * B * Q) (D * B * Q)), (Value.slice none 0 0), (eN 0), (Value.slice none 0 0), (Value.bool false), (eN 0), (eN 0)]), (ptr cb 0), (ptr cb 0), (ptr cb 0), (ptr cb 3), (ptr cb 6), (sli db 0 (D * B * Q) (D * B * Q)), (eN (D * B * Q)), (eN i), (Value.bool (decide (i < (D * B * Q)))), (eN i), (v31 0), (v31 1), (v31 2), (v31 3), (v31 4), (v31 5), (v31 6), (v31 7), (z 37)] ++ (us 44))) (fun v31 => ([(Value.agg #[(eN D), (eN B), (eN Q)]), (Value.slice none 0 0), (ptr gb 0), undef, (Value.pointer none), (eN 0), (ptr cb 0), (eN i), undef, undef, (Value.agg #[(eN D), (eN B), (eN Q)]), (Value.bool true), (Value.bool false), (Value.agg #[(eN D), (eN B), (eN Q)]), (Value.agg #[(eN D), (eN B), (eN Q)]), (Value.agg #[(eN D), (eN B), (eN Q), (sli db 0 (D * B * Q) (D * B * Q))]), (Value.agg #[(eN D), (eN B), (eN Q)]), (Value.agg #[(eN D), (eN B), (eN Q), (sli zb 0 (D * B * Q) (D * B * Q))]), (Value.agg #[(eN D), (eN B), (eN Q), (eN D), (eN B), (eN Q), (sli db 0 (D * B * Q) (D * B * Q)), (eN D), (eN B), (eN Q), (sli zb 0 (D * B * Q) (D * B * Q)), (Value.slice none 0 0), (eN 0), (Value.slice none 0 0), (Value.bool false), (eN 0), (eN 0)]), (ptr cb 0), (ptr cb 0), (ptr cb 0), (ptr cb 3), (ptr cb 6), (sli db 0 (D * B * Q) (D * B * Q)), (eN (D * B * Q)), (eN i), (Value.bool (decide (i < (D * B * Q)))), (eN i), (v31 0), (v31 1), (v31 2), (v31 3), (v31 4), (v31 5), (v31 6), (z 36), (z 37)] ++ (us 44))) s_mx (by kernel_rfl) rfl (by decide) (by rfl) (by kernel_rfl) (by kernel_rfl) (by kernel_rfl) (by rfl) (fun v_ => by kernel_rfl) (fun v_ => by kernel_rfl) (fun _ => fun w_ w2_ h ho => by obtain ⟨r_a13, r_a20, r_a22, r_a26⟩ := h; exact ⟨r_a13.step0 ho, r_a20.step0 ho, r_a22.step0 ho, r_a26.step0 ho⟩) ⟨a13, a20, a22, a26⟩ ?_ ?_ ?_
  ·
   refine ls_cons ?_ ?_
   ·
    intro v31 lo hi w_ k_ hO hd _ _ hk_ _ hR hold
    obtain ⟨r_a13, r_a20, r_a22, r_a26⟩ := hR
    clear hd hold
    refine ⟨_, rfl, gd rfl ?_⟩
    exact Does.is (d_move rfl)
   refine ls_cons ?_ ?_
   ·
    intro v31 lo hi w_ k_ hO hd _ _ hk_ _ hR hold
    obtain ⟨r_a13, r_a20, r_a22, r_a26⟩ := hR
    have e0 : v31 0 = (ptr cb 0) := hd 0 (by kernel_rfl)
    clear hd hold
    refine ⟨_, rfl, gd rfl ?_⟩
    exact Does.is (d_nilCheck (b := cb) (o := 0) e0)
   refine ls_cons ?_ ?_
   ·
    intro v31 lo hi w_ k_ hO hd _ _ hk_ _ hR hold
    obtain ⟨r_a13, r_a20, r_a22, r_a26⟩ := hR
    have e1 : v31 1 = (ptr cb 0) := hd 1 (by kernel_rfl)
    clear hd hold
    refine ⟨_, rfl, gd rfl ?_⟩
    exact Does.is (d_fieldAddr (j := 3) Try.underlying73 rfl s_ti65 (by decide) e1 rfl)
   refine ls_cons ?_ ?_
   ·
    intro v31 lo hi w_ k_ hO hd _ _ hk_ _ hR hold
    obtain ⟨r_a13, r_a20, r_a22, r_a26⟩ := hR
    have e2 : v31 2 = (ptr cb 3) := hd 2 (by kernel_rfl)
    clear hd hold
    refine ⟨_, rfl, gd rfl ?_⟩
    exact Does.is (d_fieldAddr (j := 6) Try.underlying65 rfl s_ti63 (by decide) e2 rfl)
   refine ls_cons ?_ ?_
   ·
    intro v31 lo hi w_ k_ hO hd _ _ hk_ _ hR hold
    obtain ⟨r_a13, r_a20, r_a22, r_a26⟩ := hR
    have e3 : v31 3 = (ptr cb 6) := hd 3 (by kernel_rfl)
    clear hd hold
    refine ⟨_, rfl, gd rfl ?_⟩
    exact Does.is (d_load (v := (sli db 0 (D * B * Q) (D * B * Q))) ⟨_, Try.underlying63, rfl⟩ e3 r_a26 rfl)
   refine ls_cons ?_ ?_
   ·
    intro v31 lo hi w_ k_ hO hd _ _ hk_ _ hR hold
    obtain ⟨r_a13, r_a20, r_a22, r_a26⟩ := hR
    clear hd hold
    refine ⟨_, rfl, gd rfl ?_⟩
    exact Does.is (d_move rfl)
   refine ls_cons ?_ ?_
   ·
    intro v31 lo hi w_ k_ hO hd _ _ hk_ _ hR hold
    obtain ⟨r_a13, r_a20, r_a22, r_a26⟩ := hR
    clear hd hold
    refine ⟨_, rfl, gd rfl ?_⟩
    refine Does.mono (R := ROw 5 eB onesW w_) ?_ (fun u w' h => ⟨(h.ps).1.less (or1_old r_a26.lt (or1_old r_a22.lt (or1_old r_a20.lt (or1_old r_a13.lt (old_old (Nat.le_trans oW.size hO.size)))))), (h.ps).2⟩)
    exact d_call (xl := []) (al := []) Try.func39 (by kernel_rfl) rfl rfl rfl (blank_ok _)
   exact ls_nil
  ·
   exact ms_nil
  intro v31 lo_ hi_ w32 o33 hd iv_ hR
  have e0 : v31 0 = (ptr cb 0) := hd 0 (by decide)
  have e1 : v31 1 = (ptr cb 0) := hd 1 (by decide)
  have e2 : v31 2 = (ptr cb 3) := hd 2 (by decide)
  have e3 : v31 3 = (ptr cb 6) := hd 3 (by decide)
  have e4 : v31 4 = (sli db 0 (D * B * Q) (D * B * Q)) := hd 4 (by decide)
  have e5 : v31 5 = (eN i) := hd 5 (by decide)
  have f_v31_6 : Ps (Or1 cb (Or1 zb (Or1 db (Or1 gb (Old W.heap.size))))) (Seq kB onesW (v31 6)) w32 := hd 6 (by decide)
  clear hd iv_ lo_ hi_
  refine wpL.flat ([(Value.agg #[(eN D), (eN B), (eN Q)]), (Value.slice none 0 0), (ptr gb 0), undef, (Value.pointer none), (eN 0), (ptr cb 0), (eN i), undef, undef, (Value.agg #[(eN D), (eN B), (eN Q)]), (Value.bool true), (Value.bool false), (Value.agg #[(eN D), (eN B), (eN Q)]), (Value.agg #[(eN D), (eN B), (eN Q)]), (Value.agg #[(eN D), (eN B), (eN Q), (sli db 0 (D * B * Q) (D * B * Q))]), (Value.agg #[(eN D), (eN B), (eN Q)]), (Value.agg #[(eN D), (eN B), (eN Q), (sli zb 0 (D * B * Q) (D * B * Q))]), (Value.agg #[(eN D), (eN B), (eN Q), (eN D), (eN B), (eN Q), (sli db 0 (D * B * Q) (D * B * Q)), (eN D), (eN B), (eN Q), (sli zb 0 (D * B * Q) (D * B * Q)), (Value.slice none 0 0), (eN 0), (Value.slice none 0 0), (Value.bool false), (eN 0), (eN 0)]), (ptr cb 0), (ptr cb 0), (ptr cb 0), (ptr cb 3), (ptr cb 6), (sli db 0 (D * B * Q) (D * B * Q)), (eN (D * B * Q)), (eN i), (Value.bool (decide (i < (D * B * Q)))), (eN i), (ptr cb 0), (ptr cb 0), (ptr cb 3), (ptr cb 6), (sli db 0 (D * B * Q) (D * B * Q)), (eN i), (v31 6), (z 36), (z 37)] ++ (us 44)) (by rw [e0, e1, e2, e3, e4, e5] <;> rfl) ?_
  clear e0 e1 e2 e3 e4 e5
  replace hF := hF.step o33 (or1_mono (or1_mono (or1_mono (or1_mono no_any))))
  obtain ⟨xr_a13, xr_a20, xr_a22, xr_a26⟩ := hR
  replace a13 : Arr 23 gb [(eN D), (eN B), (eN Q)] w32 := xr_a13
  replace a20 : Arr 36 db (vd.map eV) w32 := xr_a20
  replace a22 : Arr 37 zb (List.replicate (D * B * Q) (Value.slice none 0 0)) w32 := xr_a22
  replace a26 : Arr 73 cb [(eN D), (eN B), (eN Q), (eN D), (eN B), (eN Q), (sli db 0 (D * B * Q) (D * B * Q)), (eN D), (eN B), (eN Q), (sli zb 0 (D * B * Q) (D * B * Q)), (Value.slice none 0 0), (eN 0), (Value.slice none 0 0), (Value.bool false), (eN 0), (eN 0)] w32 := xr_a26
  clear xr_a13 xr_a20 xr_a22 xr_a26
  replace oW := oW.tail o33 (tl_new g_oW_cb (tl_new g_oW_zb (tl_new g_oW_db (tl_new g_oW_gb tl_no))))
  replace o28 := o28.tail o33 (tl_in in1 (tl_in (in2 in1) (tl_in (in2 (in2 in1)) (tl_in (in2 (in2 (in2 in1))) tl_no))))
  refine wI (d_index1 (n := (D * B * Q)) (i := i) Try.underlying63 s_ti36 rfl (show _ = Value.int _ ((i : Nat) : Int) from rfl) (by omega)) ?_
  refine wO (d_store (b := db) (i := i) (v := (v31 6)) s_ti36 rfl rfl (Seq.one f_v31_6) a20 (by rw [List.length_map, l_db]; omega) (m_put vd i (v31 6) eV)) ?_
  rintro _ w34 ⟨a35, o36⟩
  replace hF := hF.stepb o36 (in2 (in2 in1))
  replace f_v31_6 := f_v31_6.stepb o36 (in2 (in2 in1))
  replace a13 := a13.step o36 (fun e => absurd e n_gb_db)
  replace a22 := a22.step o36 (fun e => absurd e (Ne.symm n_db_zb))
  replace a26 := a26.step o36 (fun e => absurd e (Ne.symm n_db_cb))
  replace oW := oW.tailb o36 g_oW_db
  replace o28 := o28.tail o36 (fun k _ e => by have : k = db := e; rw [this]; exact (in2 (in2 in1)))
  replace l_db : (vd.set i (v31 6) : List Value).length = D * B * Q := (List.length_set ..).trans l_db
  refine wF ([(Value.agg #[(eN D), (eN B), (eN Q)]), (Value.slice none 0 0), (ptr gb 0), undef, (Value.pointer none), (eN 0), (ptr cb 0), (eN i), undef, undef, (Value.agg #[(eN D), (eN B), (eN Q)]), (Value.bool true), (Value.bool false), (Value.agg #[(eN D), (eN B), (eN Q)]), (Value.agg #[(eN D), (eN B), (eN Q)]), (Value.agg #[(eN D), (eN B), (eN Q), (sli db 0 (D * B * Q) (D * B * Q))]), (Value.agg #[(eN D), (eN B), (eN Q)]), (Value.agg #[(eN D), (eN B), (eN Q), (sli zb 0 (D * B * Q) (D * B * Q))]), (Value.agg #[(eN D), (eN B), (eN Q), (eN D), (eN B), (eN Q), (sli db 0 (D * B * Q) (D * B * Q)), (eN D), (eN B), (eN Q), (sli zb 0 (D * B * Q) (D * B * Q)), (Value.slice none 0 0), (eN 0), (Value.slice none 0 0), (Value.bool false), (eN 0), (eN 0)]), (ptr cb 0), (ptr cb 0), (ptr cb 0), (ptr cb 3), (ptr cb 6), (sli db 0 (D * B * Q) (D * B * Q)), (eN (D * B * Q)), (eN i), (Value.bool (decide (i < (D * B * Q)))), (eN i), (ptr cb 0), (ptr cb 0), (ptr cb 3), (ptr cb 6), (sli db 0 (D * B * Q) (D * B * Q)), (eN i), (v31 6), (ptr db i), (z 37)] ++ (us 44)) ?_
  refine wpL.done ?_
  refine inb_n (then_n ?_)
  refine plain ?_
  refine wI (n_add (a := i) (b := 1) rfl rfl (by omega)) ?_
  refine wI (d_move rfl) ?_
  refine wF ([(Value.agg #[(eN D), (eN B), (eN Q)]), (Value.slice none 0 0), (ptr gb 0), undef, (Value.pointer none), (eN 0), (ptr cb 0), (eN i), undef, undef, (Value.agg #[(eN D), (eN B), (eN Q)]), (Value.bool true), (Value.bool false), (Value.agg #[(eN D), (eN B), (eN Q)]), (Value.agg #[(eN D), (eN B), (eN Q)]), (Value.agg #[(eN D), (eN B), (eN Q), (sli db 0 (D * B * Q) (D * B * Q))]), (Value.agg #[(eN D), (eN B), (eN Q)]), (Value.agg #[(eN D), (eN B), (eN Q), (sli zb 0 (D * B * Q) (D * B * Q))]), (Value.agg #[(eN D), (eN B), (eN Q), (eN D), (eN B), (eN Q), (sli db 0 (D * B * Q) (D * B * Q)), (eN D), (eN B), (eN Q), (sli zb 0 (D * B * Q) (D * B * Q)), (Value.slice none 0 0), (eN 0), (Value.slice none 0 0), (Value.bool false), (eN 0), (eN 0)]), (ptr cb 0), (ptr cb 0), (ptr cb 0), (ptr cb 3), (ptr cb 6), (sli db 0 (D * B * Q) (D * B * Q)), (eN (D * B * Q)), (eN (i + 1)), (Value.bool (decide (i < (D * B * Q)))), (eN i), (ptr cb 0), (ptr cb 0), (ptr cb 3), (ptr cb 6), (sli db 0 (D * B * Q) (D * B * Q)), (eN i), (v31 6), (ptr db i), (eN (i + 1))] ++ (us 44)) ?_
  refine wpL.done ?_
  refine then_n ?_
  refine ⟨_, ⟨i + 1, vd.set i (v31 6)⟩, rfl, rfl, ⟨?_, ?_, ?_, ?_, ?_, ?_, ?_, ?_⟩, ?_⟩
  ·
   (try dsimp only)
   all_goals (omega)
  ·
   (try dsimp only)
   all_goals (exact fam_next hF f_v31_6 (by rw [List.length_set] at l_db; omega))
  ·
   exact o28
  ·
   exact a13
  ·
   exact l_db
  ·
   exact a35
  ·
   exact a22
  ·
   exact a26
  ·
   (try dsimp only)
   all_goals (omega)
 refine wpIn_exit ?_
 refine then_x (then_x (inb_e ?_))
 refine then_n ?_
 refine wpIn_seq ?_
 refine wpIn_seq ?_
 obtain rfl : i = D * B * Q := by omega
 refine wp_eq (l' := ([(Value.agg #[(eN D), (eN B), (eN Q)]), (Value.slice none 0 0), (ptr gb 0), undef, (Value.pointer none), (eN 0), (ptr cb 0), (z 7), undef, undef, (Value.agg #[(eN D), (eN B), (eN Q)]), (Value.bool true), (Value.bool false), (Value.agg #[(eN D), (eN B), (eN Q)]), (Value.agg #[(eN D), (eN B), (eN Q)]), (Value.agg #[(eN D), (eN B), (eN Q), (sli db 0 (D * B * Q) (D * B * Q))]), (Value.agg #[(eN D), (eN B), (eN Q)]), (Value.agg #[(eN D), (eN B), (eN Q), (sli zb 0 (D * B * Q) (D * B * Q))]), (Value.agg #[(eN D), (eN B), (eN Q), (eN D), (eN B), (eN Q), (sli db 0 (D * B * Q) (D * B * Q)), (eN D), (eN B), (eN Q), (sli zb 0 (D * B * Q) (D * B * Q)), (Value.slice none 0 0), (eN 0), (Value.slice none 0 0), (Value.bool false), (eN 0), (eN 0)]), (ptr cb 0), (ptr cb 0), (ptr cb 0), (ptr cb 3), (ptr cb 6), (sli db 0 (D * B * Q) (D * B * Q)), (eN (D * B * Q)), (eN (D * B * Q)), (Value.bool (decide ((D * B * Q) < (D * B * Q))))] ++ (zs z 28 10 ++ (us 44)))) rfl ?_
 refine plain ?_
 refine wI (d_fieldAddr (j := 0) Try.underlying23 rfl s_ti3 (by decide) rfl rfl) ?_
 refine wI (d_load (v := (eN D)) ⟨_, Try.underlying3, rfl⟩ rfl a13 rfl) ?_
 refine wI (d_move rfl) ?_
 refine wF ([(Value.agg #[(eN D), (eN B), (eN Q)]), (Value.slice none 0 0), (ptr gb 0), undef, (Value.pointer none), (eN 0), (ptr cb 0), (z 7), undef, undef, (Value.agg #[(eN D), (eN B), (eN Q)]), (Value.bool true), (Value.bool false), (Value.agg #[(eN D), (eN B), (eN Q)]), (Value.agg #[(eN D), (eN B), (eN Q)]), (Value.agg #[(eN D), (eN B), (eN Q), (sli db 0 (D * B * Q) (D * B * Q))]), (Value.agg #[(eN D), (eN B), (eN Q)]), (Value.agg #[(eN D), (eN B), (eN Q), (sli zb 0 (D * B * Q) (D * B * Q))]), (Value.agg #[(eN D), (eN B), (eN Q), (eN D), (eN B), (eN Q), (sli db 0 (D * B * Q) (D * B * Q)), (eN D), (eN B), (eN Q), (sli zb 0 (D * B * Q) (D * B * Q)), (Value.slice none 0 0), (eN 0), (Value.slice none 0 0), (Value.bool false), (eN 0), (eN 0)]), (ptr cb 0), (ptr cb 0), (ptr cb 0), (ptr cb 3), (ptr cb 6), (sli db 0 (D * B * Q) (D * B * Q)), (eN (D * B * Q)), (eN (D * B * Q)), (Value.bool (decide ((D * B * Q) < (D * B * Q))))] ++ (zs z 28 10 ++ [(ptr gb 0), (eN D), (eN 0)] ++ (us 41))) ?_
 refine wpL.done ?_
 refine then_n ?_
 refine wpIn_block ?_
 have a37 : Ow 75 1 none (Value.slice none 0 0) ([] : List Nat).length (([] : List Nat).map (eK B)) w29 := Ow.nil _ _ _
 have nq_bk_gb : ∀ x, (none : Option Nat) = some x → ¬ x = gb := fun x e => by cases e
 have nq_bk_db : ∀ x, (none : Option Nat) = some x → ¬ x = db := fun x e => by cases e
 have nq_bk_zb : ∀ x, (none : Option Nat) = some x → ¬ x = zb := fun x e => by cases e
 have nq_bk_cb : ∀ x, (none : Option Nat) = some x → ¬ x = cb := fun x e => by cases e
 have q_oW_bk : Fr none none W.heap.size := Fr.none
 have q_o28_bk : Fr none none w24.heap.size := Fr.none
 replace hF := hF.qnone
 have h_lt_gb := a13.lt
 have h_lt_db := a20.lt
 have h_lt_zb := a22.lt
 have h_lt_cb := a26.lt
 have h_lts_bk := a37.lts
 refine loop2 (fun (s_ : (Nat) × (List Nat) × (Option Nat) × (Value)) => match s_ with | ⟨j, bk, bo_bk, u_bk⟩ => fun (z : Nat → Value) => (([(Value.agg #[(eN D), (eN B), (eN Q)]), (Value.slice none 0 0), (ptr gb 0), undef, (Value.pointer none), (eN 0), (ptr cb 0), (z 7), undef, undef, (Value.agg #[(eN D), (eN B), (eN Q)]), (Value.bool true), (Value.bool false), (Value.agg #[(eN D), (eN B), (eN Q)]), (Value.agg #[(eN D), (eN B), (eN Q)]), (Value.agg #[(eN D), (eN B), (eN Q), (sli db 0 (D * B * Q) (D * B * Q))]), (Value.agg #[(eN D), (eN B), (eN Q)]), (Value.agg #[(eN D), (eN B), (eN Q), (sli zb 0 (D * B * Q) (D * B * Q))]), (Value.agg #[(eN D), (eN B), (eN Q), (eN D), (eN B), (eN Q), (sli db 0 (D * B * Q) (D * B * Q)), (eN D), (eN B), (eN Q), (sli zb 0 (D * B * Q) (D * B * Q)), (Value.slice none 0 0), (eN 0), (Value.slice none 0 0), (Value.bool false), (eN 0), (eN 0)]), (ptr cb 0), (ptr cb 0), (ptr cb 0), (ptr cb 3), (ptr cb 6), (sli db 0 (D * B * Q) (D * B * Q)), (eN (D * B * Q)), (eN (D * B * Q)), (Value.bool (decide ((D * B * Q) < (D * B * Q))))] ++ (zs z 28 10 ++ [(ptr gb 0), (eN D), (eN j)] ++ (zs z 41 14 ++ (us 27)))) : List Value)) (fun (s_ : (Nat) × (List Nat) × (Option Nat) × (Value)) => match s_ with | ⟨j, bk, bo_bk, u_bk⟩ => fun (w_ : World) => (j ≤ D) ∧ (bk.length = j) ∧ (bk.Nodup) ∧ (∀ x ∈ bk, x ≠ cb ∧ x ≠ db ∧ x ≠ zb ∧ W.heap.size ≤ x ∧ x < w_.heap.size) ∧ (∀ x, bo_bk = some x → x ∉ bk) ∧ (Ps (Orq bo_bk (Or1 cb (Or1 zb (Or1 db (Or1 gb (Old W.heap.size)))))) (fun w => ∀ q, q < j → Arr 77 (bk.getD q 0) (stC B (fun _ => St0)) w) w_) ∧ (Ps (Orq bo_bk (Or1 cb (Or1 zb (Or1 db (Or1 gb (fun k => k ∈ bk ∨ Old W.heap.size k)))))) (Fam kB (D * B * Q) (fun _ => onesW) vd) w_) ∧ Only (Orq none (Or1 cb (Or1 zb (Or1 db (Or1 gb No))))) w29 w_ ∧ Arr 23 gb [(eN D), (eN B), (eN Q)] w_ ∧ Arr 36 db (vd.map eV) w_ ∧ Arr 37 zb (List.replicate (D * B * Q) (Value.slice none 0 0)) w_ ∧ Arr 73 cb [(eN D), (eN B), (eN Q), (eN D), (eN B), (eN Q), (sli db 0 (D * B * Q) (D * B * Q)), (eN D), (eN B), (eN Q), (sli zb 0 (D * B * Q) (D * B * Q)), u_bk, (eN 0), (Value.slice none 0 0), (Value.bool false), (eN 0), (eN 0)] w_ ∧ Ow 75 1 bo_bk u_bk (bk).length ((bk).map (eK B)) w_ ∧ Fr bo_bk none w29.heap.size) (fun (s_ : (Nat) × (List Nat) × (Option Nat) × (Value)) => match s_ with | ⟨j, bk, bo_bk, u_bk⟩ => D - j) ⟨0, [], none, (Value.slice none 0 0)⟩ rfl ?_ ?_
 ·
  refine ⟨?_, ?_, ?_, ?_, ?_, ?_, ?_, ?_, ?_, ?_, ?_, ?_, ?_, ?_⟩
  ·
   exact Nat.zero_le _
  ·
   exact rfl
  ·
   exact List.nodup_nil
  ·
   exact fun x hx => by cases hx
  ·
   exact fun x hx => by cases hx
  ·
   exact fun w' _ q hq => absurd hq (Nat.not_lt_zero q)
  ·
   (try dsimp only)
   all_goals (exact hF.less (by intro k _ h; simp only [Or1, Orq] at h ⊢; grind))
  ·
   exact Only.refl _ _
  ·
   exact a13
  ·
   exact a20
  ·
   exact a22
  ·
   exact a26
  ·
   exact a37
  ·
   exact Fr.same
 rintro ⟨j, bk, bo_bk, u_bk⟩ z w39 ⟨hi2, hl, hn, hb, hbo, hK, hG, o38, a13, a20, a22, a26, a37, qq_bk⟩
 (try dsimp only)
 have tq_oW := oW.size
 replace oW := oW.tail o38 (tl_q q_oW_bk (fun _ e => by cases e) (tl_new g_oW_cb (tl_new g_oW_zb (tl_new g_oW_db (tl_new g_oW_gb tl_no)))))
 replace q_oW_bk := qtr qq_bk q_oW_bk tq_oW
 have tq_o28 := o28.size
 replace o28 := o28.tail o38 (tl_q q_o28_bk (fun _ e => by cases e) (tl_in in1 (tl_in (in2 in1) (tl_in (in2 (in2 in1)) (tl_in (in2 (in2 (in2 in1))) tl_no)))))
 replace q_o28_bk := qtr qq_bk q_o28_bk tq_o28
 replace nq_bk_gb := nqs nq_bk_gb qq_bk h_lt_gb
 replace nq_bk_db := nqs nq_bk_db qq_bk h_lt_db
 replace nq_bk_zb := nqs nq_bk_zb qq_bk h_lt_zb
 replace nq_bk_cb := nqs nq_bk_cb qq_bk h_lt_cb
 have q_o38_bk := qq_bk
 have oH : Only (Orq bo_bk (Or1 cb (Or1 zb (Or1 db (Or1 gb No))))) w39 w39 := Only.refl _ _
 have q_oH_bk : Fr bo_bk bo_bk w39.heap.size := Fr.same
 refine wpIn_seq ?_
 refine plain ?_
 refine wI (n_lss (a := j) (b := D) rfl rfl rfl) ?_
 refine wF ([(Value.agg #[(eN D), (eN B), (eN Q)]), (Value.slice none 0 0), (ptr gb 0), undef, (Value.pointer none), (eN 0), (ptr cb 0), (z 7), undef, undef, (Value.agg #[(eN D), (eN B), (eN Q)]), (Value.bool true), (Value.bool false), (Value.agg #[(eN D), (eN B), (eN Q)]), (Value.agg #[(eN D), (eN B), (eN Q)]), (Value.agg #[(eN D), (eN B), (eN Q), (sli db 0 (D * B * Q) (D * B * Q))]), (Value.agg #[(eN D), (eN B), (eN Q)]), (Value.agg #[(eN D), (eN B), (eN Q), (sli zb 0 (D * B * Q) (D * B * Q))]), (Value.agg #[(eN D), (eN B), (eN Q), (eN D), (eN B), (eN Q), (sli db 0 (D * B * Q) (D * B * Q)), (eN D), (eN B), (eN Q), (sli zb 0 (D * B * Q) (D * B * Q)), (Value.slice none 0 0), (eN 0), (Value.slice none 0 0), (Value.bool false), (eN 0), (eN 0)]), (ptr cb 0), (ptr cb 0), (ptr cb 0), (ptr cb 3), (ptr cb 6), (sli db 0 (D * B * Q) (D * B * Q)), (eN (D * B * Q)), (eN (D * B * Q)), (Value.bool (decide ((D * B * Q) < (D * B * Q))))] ++ (zs z 28 10 ++ [(ptr gb 0), (eN D), (eN j), (Value.bool (decide (j < D)))] ++ (zs z 42 13 ++ (us 27)))) ?_
 refine wpL.done ?_
 refine then_n ?_
 refine wpIn_seq ?_
 refine cond_if rfl (fun c40 => ?_) (fun c40 => ?_)
 ·
  refine wpIn_skip ?_
  refine then_n ?_
  refine wpIn_seq ?_
  refine wpIn_block ?_
  have hX0_ : ∀ k, (Orq bo_bk (Or1 cb (Or1 zb (Or1 db (Or1 gb (Old W.heap.size)))))) k → k < w39.heap.size := (lt_orq a37.lts (lt_or1 a26.lt (lt_or1 a22.lt (lt_or1 a20.lt (lt_or1 a13.lt (fun k t => Nat.lt_of_lt_of_le t oW.size))))))
  have hO0_ : ∀ k, (Orq bo_bk (Or1 cb (Or1 zb (Or1 db (Or1 gb No))))) k → k < w39.heap.size := fun k h => hX0_ k ((orq_mono (or1_mono (or1_mono (or1_mono (or1_mono no_any))))) k h)
  refine drawnF (O := (Orq bo_bk (Or1 cb (Or1 zb (Or1 db (Or1 gb No)))))) (n := 13) [0] [9, 10, 11, 12] (fun i_ => nth [(ptr cb 0)] i_) 9 [0, 0, 2, 6, 14, 0, 32, 96, 224, 510, 1023, 2047, 4095] [(0, 42), (1, 43), (2, 44), (3, 45), (4, 46), (5, 47), (6, 48), (7, 49), (8, 50), (9, 51), (10, 52), (11, 53)] [(0, 42), (1, 43), (2, 44), (3, 45), (4, 46), (5, 47), (6, 48), (7, 49), (8, 50)] [0, 1, 2, 3, 4, 5, 6, 7, 8] [] (fun i_ => ([RF.is (Orq bo_bk (Or1 cb (Or1 zb (Or1 db (Or1 gb No))))) (ptr cb 0), RF.is (Orq bo_bk (Or1 cb (Or1 zb (Or1 db (Or1 gb No))))) (ptr cb 0), RF.is (Orq bo_bk (Or1 cb (Or1 zb (Or1 db (Or1 gb No))))) (ptr cb 0), RF.is (Orq bo_bk (Or1 cb (Or1 zb (Or1 db (Or1 gb No))))) (ptr cb 11), RF.is (Orq bo_bk (Or1 cb (Or1 zb (Or1 db (Or1 gb No))))) u_bk, RF.is (Orq bo_bk (Or1 cb (Or1 zb (Or1 db (Or1 gb No))))) (ptr gb 1), RF.is (Orq bo_bk (Or1 cb (Or1 zb (Or1 db (Or1 gb No))))) (eN B), RF.mk_ (Orq bo_bk (Or1 cb (Or1 zb (Or1 db (Or1 gb No))))) (fun b_ => (sli b_ 0 B B)) 77 (stC B (fun _ => St0)) w39.heap.size hO0_, RF.mkv_ (Orq bo_bk (Or1 cb (Or1 zb (Or1 db (Or1 gb No))))) (fun b_ => (sli b_ 0 1 1)) 75 (fun v41 => [(v41 7)]) w39.heap.size hO0_] : List (RF (Orq bo_bk (Or1 cb (Or1 zb (Or1 db (Or1 gb No))))))).getD i_ (RF.any (Orq bo_bk (Or1 cb (Or1 zb (Or1 db (Or1 gb No))))))) (fun _ w_ => Arr 23 gb [(eN D), (eN B), (eN Q)] w_ ∧ Arr 36 db (vd.map eV) w_ ∧ Arr 37 zb (List.replicate (D * B * Q) (Value.slice none 0 0)) w_ ∧ Arr 73 cb [(eN D), (eN B), (eN Q), (eN D), (eN B), (eN Q), (sli db 0 (D * B * Q) (D * B * Q)), (eN D), (eN B), (eN Q), (sli zb 0 (D * B * Q) (D * B * Q)), u_bk, (eN 0), (Value.slice none 0 0), (Value.bool false), (eN 0), (eN 0)] w_ ∧ Ow 75 1 bo_bk u_bk (bk).length ((bk).map (eK B)) w_) (fun v41 => ([(Value.agg #[(eN D), (eN B), (eN Q)]), (Value.slice none 0 0), (ptr gb 0), undef, (Value.pointer none), (eN 0), (ptr cb 0), (z 7), undef, undef, (Value.agg #[(eN D), (eN B), (eN Q)]), (Value.bool true), (Value.bool false), (Value.agg #[(eN D), (eN B), (eN Q)]), (Value.agg #[(eN D), (eN B), (eN Q)]), (Value.agg #[(eN D), (eN B), (eN Q), (sli db 0 (D * B * Q) (D * B * Q))]), (Value.agg #[(eN D), (eN B), (eN Q)]), (Value.agg #[(eN D), (eN B), (eN Q), (sli zb 0 (D * B * Q) (D * B * Q))]), (Value.agg #[(eN D), (eN B), (eN Q), (eN D), (eN B), (eN Q), (sli db 0 (D * B * Q) (D * B * Q)), (eN D), (eN B), (eN Q), (sli zb 0 (D * B * Q) (D * B * Q)), (Value.slice none 0 0), (eN 0), (Value.slice none 0 0), (Value.bool false), (eN 0), (eN 0)]), (ptr cb 0), (ptr cb 0), (ptr cb 0), (ptr cb 3), (ptr cb 6), (sli db 0 (D * B * Q) (D * B * Q)), (eN (D * B * Q)), (eN (D * B * Q)), (Value.bool (decide ((D * B * Q) < (D * B * Q))))] ++ (zs z 28 10 ++ [(ptr gb 0), (eN D), (eN j), (Value.bool (decide (j < D))), (v41 0), (v41 1), (v41 2), (v41 3), (v41 4), (v41 5), (v41 6), (v41 7), (v41 8), (v41 9), (v41 10), (v41 11), (z 54)] ++ (us 27)))) (fun v41 => ([(Value.agg #[(eN D), (eN B), (eN Q)]), (Value.slice none 0 0), (ptr gb 0), undef, (Value.pointer none), (eN 0), (ptr cb 0), (z 7), undef, undef, (Value.agg #[(eN D), (eN B), (eN Q)]), (Value.bool true), (Value.bool false), (Value.agg #[(eN D), (eN B), (eN Q)]), (Value.agg #[(eN D), (eN B), (eN Q)]), (Value.agg #[(eN D), (eN B), (eN Q), (sli db 0 (D * B * Q) (D * B * Q))]), (Value.agg #[(eN D), (eN B), (eN Q)]), (Value.agg #[(eN D), (eN B), (eN Q), (sli zb 0 (D * B * Q) (D * B * Q))]), (Value.agg #[(eN D), (eN B), (eN Q), (eN D), (eN B), (eN Q), (sli db 0 (D * B * Q) (D * B * Q)), (eN D), (eN B), (eN Q), (sli zb 0 (D * B * Q) (D * B * Q)), (Value.slice none 0 0), (eN 0), (Value.slice none 0 0), (Value.bool false), (eN 0), (eN 0)]), (ptr cb 0), (ptr cb 0), (ptr cb 0), (ptr cb 3), (ptr cb 6), (sli db 0 (D * B * Q) (D * B * Q)), (eN (D * B * Q)), (eN (D * B * Q)), (Value.bool (decide ((D * B * Q) < (D * B * Q))))] ++ (zs z 28 10 ++ [(ptr gb 0), (eN D), (eN j), (Value.bool (decide (j < D))), (v41 0), (v41 1), (v41 2), (v41 3), (v41 4), (v41 5), (v41 6), (v41 7), (v41 8), (z 51), (z 52), (z 53), (z 54)] ++ (us 27)))) s_mx (by kernel_rfl) rfl (by decide) (by rfl) (by kernel_rfl) (by kernel_rfl) (by kernel_rfl) (by kernel_rfl) (fun l2_ w_ hl_ hn_ => fl_cons (fl_move (t := 6) hn_ (by kernel_rfl) (by rfl) (by rfl)) (fl_nil)) (fl_cons (by rfl) (fl_nil)) (by kernel_rfl) (by kernel_rfl) (by rfl) (fun v_ => by kernel_rfl) (fun v_ => by kernel_rfl) (fun _ => fun w_ w2_ h ho => by obtain ⟨r_a13, r_a20, r_a22, r_a26, r_a37⟩ := h; exact ⟨r_a13.step0 ho, r_a20.step0 ho, r_a22.step0 ho, r_a26.step0 ho, r_a37.step0 ho⟩) ⟨a13, a20, a22, a26, a37⟩ ?_ ?_ ?_
  ·
   refine ls_cons ?_ ?_
   ·
    intro v41 lo hi w_ k_ hO hd _ _ hk_ _ hR hold
    obtain ⟨r_a13, r_a20, r_a22, r_a26, r_a37⟩ := hR
    clear hd hold
    refine ⟨_, rfl, gd rfl ?_⟩
    exact Does.is (d_move rfl)
   refine ls_cons ?_ ?_
   ·
    intro v41 lo hi w_ k_ hO hd _ _ hk_ _ hR hold
    obtain ⟨r_a13, r_a20, r_a22, r_a26, r_a37⟩ := hR
    clear hd hold
    refine ⟨_, rfl, gd rfl ?_⟩
    exact Does.is (d_move rfl)
   refine ls_cons ?_ ?_
   ·
    intro v41 lo hi w_ k_ hO hd _ _ hk_ _ hR hold
    obtain ⟨r_a13, r_a20, r_a22, r_a26, r_a37⟩ := hR
    have e1 : v41 1 = (ptr cb 0) := hd 1 (by kernel_rfl)
    clear hd hold
    refine ⟨_, rfl, gd rfl ?_⟩
    exact Does.is (d_nilCheck (b := cb) (o := 0) e1)
   refine ls_cons ?_ ?_
   ·
    intro v41 lo hi w_ k_ hO hd _ _ hk_ _ hR hold
    obtain ⟨r_a13, r_a20, r_a22, r_a26, r_a37⟩ := hR
    have e2 : v41 2 = (ptr cb 0) := hd 2 (by kernel_rfl)
    clear hd hold
    refine ⟨_, rfl, gd rfl ?_⟩
    exact Does.is (d_fieldAddr (j := 11) Try.underlying73 rfl s_ti71 (by decide) e2 rfl)
   refine ls_cons ?_ ?_
   ·
    intro v41 lo hi w_ k_ hO hd _ _ hk_ _ hR hold
    obtain ⟨r_a13, r_a20, r_a22, r_a26, r_a37⟩ := hR
    have e3 : v41 3 = (ptr cb 11) := hd 3 (by kernel_rfl)
    clear hd hold
    refine ⟨_, rfl, gd rfl ?_⟩
    exact Does.is (d_load (v := u_bk) ⟨_, Try.underlying71, rfl⟩ e3 r_a26 rfl)
   refine ls_cons ?_ ?_
   ·
    intro v41 lo hi w_ k_ hO hd _ _ hk_ _ hR hold
    obtain ⟨r_a13, r_a20, r_a22, r_a26, r_a37⟩ := hR
    clear hd hold
    refine ⟨_, rfl, gd rfl ?_⟩
    exact Does.is (d_fieldAddr (j := 1) Try.underlying23 rfl s_ti3 (by decide) rfl rfl)
   refine ls_cons ?_ ?_
   ·
    intro v41 lo hi w_ k_ hO hd _ _ hk_ _ hR hold
    obtain ⟨r_a13, r_a20, r_a22, r_a26, r_a37⟩ := hR
    have e5 : v41 5 = (ptr gb 1) := hd 5 (by kernel_rfl)
    clear hd hold
    refine ⟨_, rfl, gd rfl ?_⟩
    exact Does.is (d_load (v := (eN B)) ⟨_, Try.underlying3, rfl⟩ e5 r_a13 rfl)
   refine ls_cons ?_ ?_
   ·
    intro v41 lo hi w_ k_ hO hd _ _ hk_ _ hR hold
    obtain ⟨r_a13, r_a20, r_a22, r_a26, r_a37⟩ := hR
    have e6 : v41 6 = (eN B) := hd 6 (by kernel_rfl)
    clear hd hold
    refine ⟨_, rfl, gd rfl ?_⟩
    refine Does.mono (d_make (n := B) (cs := (stC B (fun _ => St0))) Try.underlying75 s_ti77 e6 e6 (by omega) (by omega) (made_st B)) (fun u w' h => by obtain ⟨b_, rfl, hb_, hA_, hO_⟩ := h; exact ⟨⟨b_, rfl, hA_, Nat.le_trans hO.size hb_⟩, hO_⟩)
   refine ls_cons ?_ ?_
   ·
    intro v41 lo hi w_ k_ hO hd _ _ hk_ _ hR hold
    obtain ⟨r_a13, r_a20, r_a22, r_a26, r_a37⟩ := hR
    obtain ⟨mb7, me7, ma7, mf7⟩ : ∃ b_, v41 7 = (fun b_ => (sli b_ 0 B B)) b_ ∧ Arr 77 b_ (stC B (fun _ => St0)) w_ ∧ w39.heap.size ≤ b_ := hd 7 (by kernel_rfl)
    clear hd hold
    refine ⟨_, rfl, gd rfl ?_⟩
    refine Does.mono (d_buildL (cs := [(v41 7)]) Try.underlying71 s_ti75 rfl (nb rfl) (parts_cons (vs := [(v41 7)]) (cells_of (v := (v41 7)) rfl (by rw [me7]; rfl)) parts_nil) rfl) (fun u w' h => by obtain ⟨b_, rfl, hb_, hA_, hO_⟩ := h; exact ⟨⟨b_, rfl, hA_, Nat.le_trans hO.size hb_⟩, hO_⟩)
   exact ls_nil
  ·
   exact ms_nil
  intro v41 lo_ hi_ w42 o43 hd hR
  have e0 : v41 0 = (ptr cb 0) := hd 0 (by decide)
  have e1 : v41 1 = (ptr cb 0) := hd 1 (by decide)
  have e2 : v41 2 = (ptr cb 0) := hd 2 (by decide)
  have e3 : v41 3 = (ptr cb 11) := hd 3 (by decide)
  have e4 : v41 4 = u_bk := hd 4 (by decide)
  have e5 : v41 5 = (ptr gb 1) := hd 5 (by decide)
  have e6 : v41 6 = (eN B) := hd 6 (by decide)
  obtain ⟨b49, e7, a44, g45⟩ : ∃ b_, v41 7 = (fun b_ => (sli b_ 0 B B)) b_ ∧ Arr 77 b_ (stC B (fun _ => St0)) w42 ∧ w39.heap.size ≤ b_ := hd 7 (by decide)
  dsimp only at e7
  have n_gb_b49 : gb ≠ b49 := a13.ne g45
  have n_db_b49 : db ≠ b49 := a20.ne g45
  have n_zb_b49 : zb ≠ b49 := a22.ne g45
  have n_cb_b49 : cb ≠ b49 := a26.ne g45
  have nq_bk_b49 : ∀ x, bo_bk = some x → ¬ x = b49 := fun x hx e => by have := a37.lts x hx; omega
  have g_oW_b49 : W.heap.size ≤ b49 := Nat.le_trans oW.size g45
  have g_o28_b49 : w24.heap.size ≤ b49 := Nat.le_trans o28.size g45
  have g_o38_b49 : w29.heap.size ≤ b49 := Nat.le_trans o38.size g45
  have g_oH_b49 : w39.heap.size ≤ b49 := Nat.le_trans oH.size g45
  obtain ⟨b50, e8, a46, g47⟩ : ∃ b_, v41 8 = (fun b_ => (sli b_ 0 1 1)) b_ ∧ Arr 75 b_ [(v41 7)] w42 ∧ w39.heap.size ≤ b_ := hd 8 (by decide)
  dsimp only at e8
  have n_gb_b50 : gb ≠ b50 := a13.ne g47
  have n_db_b50 : db ≠ b50 := a20.ne g47
  have n_zb_b50 : zb ≠ b50 := a22.ne g47
  have n_cb_b50 : cb ≠ b50 := a26.ne g47
  have nq_bk_b50 : ∀ x, bo_bk = some x → ¬ x = b50 := fun x hx e => by have := a37.lts x hx; omega
  have g_oW_b50 : W.heap.size ≤ b50 := Nat.le_trans oW.size g47
  have g_o28_b50 : w24.heap.size ≤ b50 := Nat.le_trans o28.size g47
  have g_o38_b50 : w29.heap.size ≤ b50 := Nat.le_trans o38.size g47
  have g_oH_b50 : w39.heap.size ≤ b50 := Nat.le_trans oH.size g47
  have n_b49_b50 : b49 ≠ b50 := arr_ne a44 a46 (by decide)
  rw [e7] at a46
  replace a46 : Arr 75 b50 (([b49] : List Nat).map (eK B)) w42 := a46
  clear hd lo_ hi_
  refine wS.flat ([(Value.agg #[(eN D), (eN B), (eN Q)]), (Value.slice none 0 0), (ptr gb 0), undef, (Value.pointer none), (eN 0), (ptr cb 0), (z 7), undef, undef, (Value.agg #[(eN D), (eN B), (eN Q)]), (Value.bool true), (Value.bool false), (Value.agg #[(eN D), (eN B), (eN Q)]), (Value.agg #[(eN D), (eN B), (eN Q)]), (Value.agg #[(eN D), (eN B), (eN Q), (sli db 0 (D * B * Q) (D * B * Q))]), (Value.agg #[(eN D), (eN B), (eN Q)]), (Value.agg #[(eN D), (eN B), (eN Q), (sli zb 0 (D * B * Q) (D * B * Q))]), (Value.agg #[(eN D), (eN B), (eN Q), (eN D), (eN B), (eN Q), (sli db 0 (D * B * Q) (D * B * Q)), (eN D), (eN B), (eN Q), (sli zb 0 (D * B * Q) (D * B * Q)), (Value.slice none 0 0), (eN 0), (Value.slice none 0 0), (Value.bool false), (eN 0), (eN 0)]), (ptr cb 0), (ptr cb 0), (ptr cb 0), (ptr cb 3), (ptr cb 6), (sli db 0 (D * B * Q) (D * B * Q)), (eN (D * B * Q)), (eN (D * B * Q)), (Value.bool (decide ((D * B * Q) < (D * B * Q))))] ++ (zs z 28 10 ++ [(ptr gb 0), (eN D), (eN j), (Value.bool (decide (j < D))), (ptr cb 0), (ptr cb 0), (ptr cb 0), (ptr cb 11), u_bk, (ptr gb 1), (eN B), (sli b49 0 B B), (sli b50 0 1 1), (z 51), (z 52), (z 53), (z 54)] ++ (us 27))) (by rw [e0, e1, e2, e3, e4, e5, e6, e7, e8] <;> rfl) ?_
  clear e0 e1 e2 e3 e4 e5 e6 e7 e8
  replace hG := ((hG.less (Y := (Or1 b49 (Orq bo_bk (Or1 cb (Or1 zb (Or1 db (Or1 gb (fun k => k ∈ bk ∨ Old W.heap.size k)))))))) (xx_new g45 xx_id)).less (Y := (Or1 b50 (Or1 b49 (Orq bo_bk (Or1 cb (Or1 zb (Or1 db (Or1 gb (fun k => k ∈ bk ∨ Old W.heap.size k))))))))) (xx_new g47 xx_id)).step o43 (or1_skip (or1_skip (orq_mono (or1_mono (or1_mono (or1_mono (or1_mono no_any)))))))
  replace hK := ((hK.less (Y := (Or1 b49 (Orq bo_bk (Or1 cb (Or1 zb (Or1 db (Or1 gb (Old W.heap.size)))))))) (xx_new g45 xx_id)).less (Y := (Or1 b50 (Or1 b49 (Orq bo_bk (Or1 cb (Or1 zb (Or1 db (Or1 gb (Old W.heap.size))))))))) (xx_new g47 xx_id)).step o43 (or1_skip (or1_skip (orq_mono (or1_mono (or1_mono (or1_mono (or1_mono no_any)))))))
  obtain ⟨xr_a13, xr_a20, xr_a22, xr_a26, xr_a37⟩ := hR
  replace a13 : Arr 23 gb [(eN D), (eN B), (eN Q)] w42 := xr_a13
  replace a20 : Arr 36 db (vd.map eV) w42 := xr_a20
  replace a22 : Arr 37 zb (List.replicate (D * B * Q) (Value.slice none 0 0)) w42 := xr_a22
  replace a26 : Arr 73 cb [(eN D), (eN B), (eN Q), (eN D), (eN B), (eN Q), (sli db 0 (D * B * Q) (D * B * Q)), (eN D), (eN B), (eN Q), (sli zb 0 (D * B * Q) (D * B * Q)), u_bk, (eN 0), (Value.slice none 0 0), (Value.bool false), (eN 0), (eN 0)] w42 := xr_a26
  replace a37 : Ow 75 1 bo_bk u_bk (bk).length ((bk).map (eK B)) w42 := xr_a37
  clear xr_a13 xr_a20 xr_a22 xr_a26 xr_a37
  replace oW := oW.tail o43 (tl_q q_oW_bk (fun _ e => by cases e) (tl_new g_oW_cb (tl_new g_oW_zb (tl_new g_oW_db (tl_new g_oW_gb tl_no)))))
  replace o28 := o28.tail o43 (tl_q q_o28_bk (fun _ e => by cases e) (tl_in in1 (tl_in (in2 in1) (tl_in (in2 (in2 in1)) (tl_in (in2 (in2 (in2 in1))) tl_no)))))
  replace o38 := o38.tail o43 (tl_q q_o38_bk (fun k e => (.inl e)) (tl_in (inq in1) (tl_in (inq (in2 in1)) (tl_in (inq (in2 (in2 in1))) (tl_in (inq (in2 (in2 (in2 in1)))) tl_no)))))
  replace oH := oH.tail o43 (tl_q q_oH_bk (fun k e => (.inl e)) (tl_in (inq in1) (tl_in (inq (in2 in1)) (tl_in (inq (in2 (in2 in1))) (tl_in (inq (in2 (in2 (in2 in1)))) tl_no)))))
  have l_b50 : (([b49] : List Nat) : List Nat).length = 1 := by simp
  refine wS.op rfl rfl (d_append Try.underlying71 Try.underlying71 s_ti75 rfl rfl rfl a37 (SrcV.of_seq (arr_seq a46 l_b50 (Nat.le_refl _)) (fun _ => rfl)) (by simp; omega) (by simp; omega) rfl) ?_
  rintro u48 w49 ⟨bo50, a51, o52, q53⟩
  replace a51 : Ow 75 1 bo50 u48 (bk ++ ([b49] : List Nat)).length ((bk ++ ([b49] : List Nat)).map (eK B)) w49 := by rw [List.length_append, List.map_append]; exact a51
  replace hG := hG.gr o52 (fun k e => (.inr (.inr (.inl e)))) (xx_or1 (xx_or1 (xx_re (Fr.of_or q53) (xx_or1 (xx_or1 (xx_or1 (xx_or1 xx_id)))))))
  replace hK := hK.gr o52 (fun k e => (.inr (.inr (.inl e)))) (xx_or1 (xx_or1 (xx_re (Fr.of_or q53) (xx_or1 (xx_or1 (xx_or1 (xx_or1 xx_id)))))))
  have nq2 := nqs nq_bk_gb (Fr.of_or q53) a13.lt
  replace a13 := a13.step o52 (fun e => nq_bk_gb _ e rfl)
  replace nq_bk_gb := nq2
  clear nq2
  have nq2 := nqs nq_bk_db (Fr.of_or q53) a20.lt
  replace a20 := a20.step o52 (fun e => nq_bk_db _ e rfl)
  replace nq_bk_db := nq2
  clear nq2
  have nq2 := nqs nq_bk_zb (Fr.of_or q53) a22.lt
  replace a22 := a22.step o52 (fun e => nq_bk_zb _ e rfl)
  replace nq_bk_zb := nq2
  clear nq2
  have nq2 := nqs nq_bk_cb (Fr.of_or q53) a26.lt
  replace a26 := a26.step o52 (fun e => nq_bk_cb _ e rfl)
  replace nq_bk_cb := nq2
  clear nq2
  have nq2 := nqs nq_bk_b49 (Fr.of_or q53) a44.lt
  replace a44 := a44.step o52 (fun e => nq_bk_b49 _ e rfl)
  replace nq_bk_b49 := nq2
  clear nq2
  have nq2 := nqs nq_bk_b50 (Fr.of_or q53) a46.lt
  replace a46 := a46.step o52 (fun e => nq_bk_b50 _ e rfl)
  replace nq_bk_b50 := nq2
  clear nq2
  have tq := oW.size
  replace oW := oW.tailr o52 q_oW_bk (fun _ e => by cases e)
  replace q_oW_bk := qtr (Fr.of_or q53) q_oW_bk tq
  clear tq
  have tq := o28.size
  replace o28 := o28.tailr o52 q_o28_bk (fun _ e => by cases e)
  replace q_o28_bk := qtr (Fr.of_or q53) q_o28_bk tq
  clear tq
  have tq := o38.size
  replace o38 := o38.tailr o52 q_o38_bk (fun k e => (.inl e))
  replace q_o38_bk := qtr (Fr.of_or q53) q_o38_bk tq
  clear tq
  have tq := oH.size
  replace oH := oH.tailr o52 q_oH_bk (fun k e => (.inl e))
  replace q_oH_bk := qtr (Fr.of_or q53) q_oH_bk tq
  clear tq
  refine wS.is rfl rfl (d_nilCheck (b := cb) (o := 0) rfl) ?_
  refine wS.is rfl rfl (d_fieldAddr (j := 11) Try.underlying73 rfl s_ti71 (by decide) rfl rfl) ?_
  refine wS.flat ([(Value.agg #[(eN D), (eN B), (eN Q)]), (Value.slice none 0 0), (ptr gb 0), undef, (Value.pointer none), (eN 0), (ptr cb 0), (z 7), undef, undef, (Value.agg #[(eN D), (eN B), (eN Q)]), (Value.bool true), (Value.bool false), (Value.agg #[(eN D), (eN B), (eN Q)]), (Value.agg #[(eN D), (eN B), (eN Q)]), (Value.agg #[(eN D), (eN B), (eN Q), (sli db 0 (D * B * Q) (D * B * Q))]), (Value.agg #[(eN D), (eN B), (eN Q)]), (Value.agg #[(eN D), (eN B), (eN Q), (sli zb 0 (D * B * Q) (D * B * Q))]), (Value.agg #[(eN D), (eN B), (eN Q), (eN D), (eN B), (eN Q), (sli db 0 (D * B * Q) (D * B * Q)), (eN D), (eN B), (eN Q), (sli zb 0 (D * B * Q) (D * B * Q)), (Value.slice none 0 0), (eN 0), (Value.slice none 0 0), (Value.bool false), (eN 0), (eN 0)]), (ptr cb 0), (ptr cb 0), (ptr cb 0), (ptr cb 3), (ptr cb 6), (sli db 0 (D * B * Q) (D * B * Q)), (eN (D * B * Q)), (eN (D * B * Q)), (Value.bool (decide ((D * B * Q) < (D * B * Q))))] ++ (zs z 28 10 ++ [(ptr gb 0), (eN D), (eN j), (Value.bool (decide (j < D))), (ptr cb 0), (ptr cb 0), (ptr cb 0), (ptr cb 11), u_bk, (ptr gb 1), (eN B), (sli b49 0 B B), (sli b50 0 1 1), u48, (ptr cb 0), (ptr cb 11), (z 54)] ++ (us 27))) (by kernel_rfl) ?_
  refine wS.op rfl rfl (d_store s_ti71 rfl rfl (Ow.one a51) a26 (nb rfl) rfl) ?_
  rintro _ w54 ⟨a55, o56⟩
  replace hG := hG.stepb o56 (in2 (in2 (inq in1)))
  replace hK := hK.stepb o56 (in2 (in2 (inq in1)))
  replace a13 := a13.step o56 (fun e => absurd e n_gb_cb)
  replace a20 := a20.step o56 (fun e => absurd e n_db_cb)
  replace a22 := a22.step o56 (fun e => absurd e n_zb_cb)
  replace a44 := a44.step o56 (fun e => absurd e (Ne.symm n_cb_b49))
  replace a46 := a46.step o56 (fun e => absurd e (Ne.symm n_cb_b50))
  replace a51 := a51.step o56 (fun x hx e => nq_bk_cb x hx e)
  replace oW := oW.tailb o56 g_oW_cb
  replace o28 := o28.tail o56 (fun k _ e => by have : k = cb := e; rw [this]; exact in1)
  replace o38 := o38.tail o56 (fun k _ e => by have : k = cb := e; rw [this]; exact (inq in1))
  replace oH := oH.tail o56 (fun k _ e => by have : k = cb := e; rw [this]; exact (inq in1))
  refine wS.flat ([(Value.agg #[(eN D), (eN B), (eN Q)]), (Value.slice none 0 0), (ptr gb 0), undef, (Value.pointer none), (eN 0), (ptr cb 0), (z 7), undef, undef, (Value.agg #[(eN D), (eN B), (eN Q)]), (Value.bool true), (Value.bool false), (Value.agg #[(eN D), (eN B), (eN Q)]), (Value.agg #[(eN D), (eN B), (eN Q)]), (Value.agg #[(eN D), (eN B), (eN Q), (sli db 0 (D * B * Q) (D * B * Q))]), (Value.agg #[(eN D), (eN B), (eN Q)]), (Value.agg #[(eN D), (eN B), (eN Q), (sli zb 0 (D * B * Q) (D * B * Q))]), (Value.agg #[(eN D), (eN B), (eN Q), (eN D), (eN B), (eN Q), (sli db 0 (D * B * Q) (D * B * Q)), (eN D), (eN B), (eN Q), (sli zb 0 (D * B * Q) (D * B * Q)), (Value.slice none 0 0), (eN 0), (Value.slice none 0 0), (Value.bool false), (eN 0), (eN 0)]), (ptr cb 0), (ptr cb 0), (ptr cb 0), (ptr cb 3), (ptr cb 6), (sli db 0 (D * B * Q) (D * B * Q)), (eN (D * B * Q)), (eN (D * B * Q)), (Value.bool (decide ((D * B * Q) < (D * B * Q))))] ++ (zs z 28 10 ++ [(ptr gb 0), (eN D), (eN j), (Value.bool (decide (j < D))), (ptr cb 0), (ptr cb 0), (ptr cb 0), (ptr cb 11), u_bk, (ptr gb 1), (eN B), (sli b49 0 B B), (sli b50 0 1 1), u48, (ptr cb 0), (ptr cb 11), (z 54)] ++ (us 27))) (by kernel_rfl) ?_
  refine wS.done ?_
  refine inb_n (then_n ?_)
  refine plain ?_
  refine wI (n_add (a := j) (b := 1) rfl rfl (by omega)) ?_
  refine wI (d_move rfl) ?_
  refine wF ([(Value.agg #[(eN D), (eN B), (eN Q)]), (Value.slice none 0 0), (ptr gb 0), undef, (Value.pointer none), (eN 0), (ptr cb 0), (z 7), undef, undef, (Value.agg #[(eN D), (eN B), (eN Q)]), (Value.bool true), (Value.bool false), (Value.agg #[(eN D), (eN B), (eN Q)]), (Value.agg #[(eN D), (eN B), (eN Q)]), (Value.agg #[(eN D), (eN B), (eN Q), (sli db 0 (D * B * Q) (D * B * Q))]), (Value.agg #[(eN D), (eN B), (eN Q)]), (Value.agg #[(eN D), (eN B), (eN Q), (sli zb 0 (D * B * Q) (D * B * Q))]), (Value.agg #[(eN D), (eN B), (eN Q), (eN D), (eN B), (eN Q), (sli db 0 (D * B * Q) (D * B * Q)), (eN D), (eN B), (eN Q), (sli zb 0 (D * B * Q) (D * B * Q)), (Value.slice none 0 0), (eN 0), (Value.slice none 0 0), (Value.bool false), (eN 0), (eN 0)]), (ptr cb 0), (ptr cb 0), (ptr cb 0), (ptr cb 3), (ptr cb 6), (sli db 0 (D * B * Q) (D * B * Q)), (eN (D * B * Q)), (eN (D * B * Q)), (Value.bool (decide ((D * B * Q) < (D * B * Q))))] ++ (zs z 28 10 ++ [(ptr gb 0), (eN D), (eN (j + 1)), (Value.bool (decide (j < D))), (ptr cb 0), (ptr cb 0), (ptr cb 0), (ptr cb 11), u_bk, (ptr gb 1), (eN B), (sli b49 0 B B), (sli b50 0 1 1), u48, (ptr cb 0), (ptr cb 11), (eN (j + 1))] ++ (us 27))) ?_
  refine wpL.done ?_
  refine then_n ?_
  have szH := oH.size
  have gH := g_oH_b49
  refine ⟨_, ⟨j + 1, bk ++ [b49], bo50, u48⟩, rfl, rfl, ⟨?_, ?_, ?_, ?_, ?_, ?_, ?_, ?_, ?_, ?_, ?_, ?_, ?_, ?_⟩, ?_⟩
  ·
   (try dsimp only)
   all_goals (omega)
  ·
   (try dsimp only)
   all_goals (rw [List.length_append, hl, List.length_singleton])
  ·
   (try dsimp only)
   all_goals (rw [List.nodup_append]; exact ⟨hn, List.nodup_cons.2 ⟨List.not_mem_nil, List.nodup_nil⟩, fun x hx y hy => by rw [List.mem_singleton.1 hy]; have := (hb x hx).2.2.2.2; omega⟩)
  ·
   (try dsimp only)
   all_goals (intro x hx; rcases List.mem_append.1 hx with hx | hx; (obtain ⟨h1, h2, h3, h4, h5⟩ := hb x hx; exact ⟨h1, h2, h3, h4, by omega⟩); (rw [List.mem_singleton.1 hx]; exact ⟨Ne.symm n_cb_b49, Ne.symm n_db_b49, Ne.symm n_zb_b49, g_oW_b49, a44.lt⟩))
  ·
   (try dsimp only)
   all_goals (intro x hx hm; rcases List.mem_append.1 hm with hm | hm; (rcases q_oH_bk x hx with h | h; (exact hbo x h hm); (have := (hb x hm).2.2.2.2; omega)); (exact nq_bk_b49 x hx (List.mem_singleton.1 hm)))
  ·
   exact kst_next (hK.less (xx_skip (xx_skip (xx_orq (xx_or1 (xx_or1 (xx_or1 (xx_or1 xx_id)))))))) ((a44.ps fun _ h => h).less (nx_orq nq_bk_b49 (nx_or1 n_cb_b49 (nx_or1 n_zb_b49 (nx_or1 n_db_b49 (nx_or1 n_gb_b49 (old_ne g_oW_b49))))))) hl
  ·
   (try dsimp only)
   all_goals (exact hG.less (by intro k _ h; simp only [Or1, Orq, List.mem_append, List.mem_singleton] at h ⊢; grind))
  ·
   exact o38
  ·
   exact a13
  ·
   exact a20
  ·
   exact a22
  ·
   exact a55
  ·
   exact a51
  ·
   exact q_o38_bk
  ·
   (try dsimp only)
   all_goals (omega)
 refine wpIn_exit ?_
 refine then_x (then_x (inb_e ?_))
 refine then_n ?_
 refine wpIn_seq ?_
 refine wpIn_seq ?_
 have hjD : j = D := by omega
 rw [hjD] at hK hl
 refine plain ?_
 refine wI (d_move rfl) ?_
 refine wI (d_len rfl Try.underlying24 rfl) ?_
 refine wI (d_move rfl) ?_
 refine wF ([(Value.agg #[(eN D), (eN B), (eN Q)]), (Value.slice none 0 0), (ptr gb 0), undef, (Value.pointer none), (eN 0), (ptr cb 0), (z 7), undef, undef, (Value.agg #[(eN D), (eN B), (eN Q)]), (Value.bool true), (Value.bool false), (Value.agg #[(eN D), (eN B), (eN Q)]), (Value.agg #[(eN D), (eN B), (eN Q)]), (Value.agg #[(eN D), (eN B), (eN Q), (sli db 0 (D * B * Q) (D * B * Q))]), (Value.agg #[(eN D), (eN B), (eN Q)]), (Value.agg #[(eN D), (eN B), (eN Q), (sli zb 0 (D * B * Q) (D * B * Q))]), (Value.agg #[(eN D), (eN B), (eN Q), (eN D), (eN B), (eN Q), (sli db 0 (D * B * Q) (D * B * Q)), (eN D), (eN B), (eN Q), (sli zb 0 (D * B * Q) (D * B * Q)), (Value.slice none 0 0), (eN 0), (Value.slice none 0 0), (Value.bool false), (eN 0), (eN 0)]), (ptr cb 0), (ptr cb 0), (ptr cb 0), (ptr cb 3), (ptr cb 6), (sli db 0 (D * B * Q) (D * B * Q)), (eN (D * B * Q)), (eN (D * B * Q)), (Value.bool (decide ((D * B * Q) < (D * B * Q))))] ++ (zs z 28 10 ++ [(ptr gb 0), (eN D), (eN j), (Value.bool (decide (j < D)))] ++ (zs z 42 13 ++ [(Value.slice none 0 0), (eN 0), (eN 0)] ++ (us 24)))) ?_
 refine wpL.done ?_
 refine then_n ?_
 refine wpIn_block ?_
 refine loop2 (fun (_ : Unit) => fun (z : Nat → Value) => (([(Value.agg #[(eN D), (eN B), (eN Q)]), (Value.slice none 0 0), (ptr gb 0), undef, (z 4), (z 5), (ptr cb 0), (z 7), undef, (z 9), (Value.agg #[(eN D), (eN B), (eN Q)]), (Value.bool true), (Value.bool false), (Value.agg #[(eN D), (eN B), (eN Q)]), (Value.agg #[(eN D), (eN B), (eN Q)]), (Value.agg #[(eN D), (eN B), (eN Q), (sli db 0 (D * B * Q) (D * B * Q))]), (Value.agg #[(eN D), (eN B), (eN Q)]), (Value.agg #[(eN D), (eN B), (eN Q), (sli zb 0 (D * B * Q) (D * B * Q))]), (Value.agg #[(eN D), (eN B), (eN Q), (eN D), (eN B), (eN Q), (sli db 0 (D * B * Q) (D * B * Q)), (eN D), (eN B), (eN Q), (sli zb 0 (D * B * Q) (D * B * Q)), (Value.slice none 0 0), (eN 0), (Value.slice none 0 0), (Value.bool false), (eN 0), (eN 0)]), (ptr cb 0), (ptr cb 0), (ptr cb 0), (ptr cb 3), (ptr cb 6), (sli db 0 (D * B * Q) (D * B * Q)), (eN (D * B * Q)), (eN (D * B * Q)), (Value.bool (decide ((D * B * Q) < (D * B * Q))))] ++ (zs z 28 10 ++ [(ptr gb 0), (eN D), (eN j), (Value.bool (decide (j < D)))] ++ (zs z 42 13 ++ [(Value.slice none 0 0), (eN 0), (eN 0)] ++ (zs z 58 23 ++ [undef])))) : List Value)) (fun (_ : Unit) => fun (w_ : World) => Only (Orq bo_bk (Or1 cb (Or1 zb (Or1 db (Or1 gb No))))) w39 w_ ∧ Arr 23 gb [(eN D), (eN B), (eN Q)] w_ ∧ Arr 36 db (vd.map eV) w_ ∧ Arr 37 zb (List.replicate (D * B * Q) (Value.slice none 0 0)) w_ ∧ Arr 73 cb [(eN D), (eN B), (eN Q), (eN D), (eN B), (eN Q), (sli db 0 (D * B * Q) (D * B * Q)), (eN D), (eN B), (eN Q), (sli zb 0 (D * B * Q) (D * B * Q)), u_bk, (eN 0), (Value.slice none 0 0), (Value.bool false), (eN 0), (eN 0)] w_ ∧ Ow 75 1 bo_bk u_bk (bk).length ((bk).map (eK B)) w_) (fun (_ : Unit) => 0) () rfl ?_ ?_
 ·
  refine ⟨?_, ?_, ?_, ?_, ?_, ?_⟩
  ·
   exact Only.refl _ _
  ·
   exact a13
  ·
   exact a20
  ·
   exact a22
  ·
   exact a26
  ·
   exact a37
 rintro _ z w58 ⟨o57, a13, a20, a22, a26, a37⟩
 (try dsimp only)
 replace hG := hG.step o57 (orq_mono (or1_mono (or1_mono (or1_mono (or1_mono no_any)))))
 replace hK := hK.step o57 (orq_mono (or1_mono (or1_mono (or1_mono (or1_mono no_any)))))
 replace oW := oW.tail o57 (tl_q q_oW_bk (fun _ e => by cases e) (tl_new g_oW_cb (tl_new g_oW_zb (tl_new g_oW_db (tl_new g_oW_gb tl_no)))))
 replace o28 := o28.tail o57 (tl_q q_o28_bk (fun _ e => by cases e) (tl_in in1 (tl_in (in2 in1) (tl_in (in2 (in2 in1)) (tl_in (in2 (in2 (in2 in1))) tl_no)))))
 replace o38 := o38.tail o57 (tl_q q_o38_bk (fun k e => (.inl e)) (tl_in (inq in1) (tl_in (inq (in2 in1)) (tl_in (inq (in2 (in2 in1))) (tl_in (inq (in2 (in2 (in2 in1)))) tl_no)))))
 replace oH := oH.tail o57 (tl_q q_oH_bk (fun k e => (.inl e)) (tl_in (inq in1) (tl_in (inq (in2 in1)) (tl_in (inq (in2 (in2 in1))) (tl_in (inq (in2 (in2 (in2 in1)))) tl_no)))))
 have q_o57_bk : Fr bo_bk bo_bk w39.heap.size := Fr.same
 refine wpIn_seq ?_
 refine plain ?_
 refine wI (n_lss (a := 0) (b := 0) rfl rfl rfl) ?_
 refine wF ([(Value.agg #[(eN D), (eN B), (eN Q)]), (Value.slice none 0 0), (ptr gb 0), undef, (z 4), (z 5), (ptr cb 0), (z 7), undef, (z 9), (Value.agg #[(eN D), (eN B), (eN Q)]), (Value.bool true), (Value.bool false), (Value.agg #[(eN D), (eN B), (eN Q)]), (Value.agg #[(eN D), (eN B), (eN Q)]), (Value.agg #[(eN D), (eN B), (eN Q), (sli db 0 (D * B * Q) (D * B * Q))]), (Value.agg #[(eN D), (eN B), (eN Q)]), (Value.agg #[(eN D), (eN B), (eN Q), (sli zb 0 (D * B * Q) (D * B * Q))]), (Value.agg #[(eN D), (eN B), (eN Q), (eN D), (eN B), (eN Q), (sli db 0 (D * B * Q) (D * B * Q)), (eN D), (eN B), (eN Q), (sli zb 0 (D * B * Q) (D * B * Q)), (Value.slice none 0 0), (eN 0), (Value.slice none 0 0), (Value.bool false), (eN 0), (eN 0)]), (ptr cb 0), (ptr cb 0), (ptr cb 0), (ptr cb 3), (ptr cb 6), (sli db 0 (D * B * Q) (D * B * Q)), (eN (D * B * Q)), (eN (D * B * Q)), (Value.bool (decide ((D * B * Q) < (D * B * Q))))] ++ (zs z 28 10 ++ [(ptr gb 0), (eN D), (eN j), (Value.bool (decide (j < D)))] ++ (zs z 42 13 ++ [(Value.slice none 0 0), (eN 0), (eN 0), (Value.bool (decide (0 < 0)))] ++ (zs z 59 22 ++ [undef])))) ?_
 refine wpL.done ?_
 refine then_n ?_
 refine wpIn_seq ?_
 refine cond_if rfl (fun c4 => ?_) (fun c4 => ?_)
 ·
  exact absurd c4 (by decide)
 refine wpIn_exit ?_
 refine then_x (then_x (inb_e ?_))
 refine then_n ?_
 refine wpIn_seq ?_
 refine plain ?_
 refine wI (d_move rfl) ?_
 refine wI (d_assign rfl) ?_
 refine wI (d_assign rfl) ?_
 refine wF ([(Value.agg #[(eN D), (eN B), (eN Q)]), (Value.slice none 0 0), (ptr gb 0), undef, (ptr cb 0), (eN 0), (ptr cb 0), (z 7), undef, (z 9), (Value.agg #[(eN D), (eN B), (eN Q)]), (Value.bool true), (Value.bool false), (Value.agg #[(eN D), (eN B), (eN Q)]), (Value.agg #[(eN D), (eN B), (eN Q)]), (Value.agg #[(eN D), (eN B), (eN Q), (sli db 0 (D * B * Q) (D * B * Q))]), (Value.agg #[(eN D), (eN B), (eN Q)]), (Value.agg #[(eN D), (eN B), (eN Q), (sli zb 0 (D * B * Q) (D * B * Q))]), (Value.agg #[(eN D), (eN B), (eN Q), (eN D), (eN B), (eN Q), (sli db 0 (D * B * Q) (D * B * Q)), (eN D), (eN B), (eN Q), (sli zb 0 (D * B * Q) (D * B * Q)), (Value.slice none 0 0), (eN 0), (Value.slice none 0 0), (Value.bool false), (eN 0), (eN 0)]), (ptr cb 0), (ptr cb 0), (ptr cb 0), (ptr cb 3), (ptr cb 6), (sli db 0 (D * B * Q) (D * B * Q)), (eN (D * B * Q)), (eN (D * B * Q)), (Value.bool (decide ((D * B * Q) < (D * B * Q))))] ++ (zs z 28 10 ++ [(ptr gb 0), (eN D), (eN j), (Value.bool (decide (j < D)))] ++ (zs z 42 13 ++ [(Value.slice none 0 0), (eN 0), (eN 0), (Value.bool (decide (0 < 0)))] ++ (zs z 59 22 ++ [(ptr cb 0)])))) ?_
 refine wpL.done ?_
 refine then_n ?_
 refine wpIn_ret ?_
 refine leave0 (v := (Value.tuple #[(ptr cb 0), (eN 0)])) (res2 Try.results13 rfl rfl) ?_
 refine ⟨⟨73, 36, 37, 77, cb, db, zb, bo_bk, u_bk, bk⟩, rfl, ?_, oW⟩
 exact nd_new hD hB hQ a26 a20 a22 a37 hK (hG.less (by intro k _ h; simp only [Or1, Orq] at h ⊢; grind)) l_db hl oW (Ne.symm n_db_cb) (Ne.symm n_zb_cb) n_db_zb hn (fun x hx => by obtain ⟨h1, h2, h3, h4, h5⟩ := hb x hx; have := oH.size; exact ⟨h1, h2, h3, h4, by omega⟩) (fun x hx => ⟨nq_bk_cb x hx, nq_bk_db x hx, nq_bk_zb x hx, hbo x hx, (q_oW_bk x hx).elim (fun e => by cases e) id, a37.lts x hx⟩) g_oW_cb g_oW_db g_oW_zb

set_option maxRecDepth 20000 in
set_option maxHeartbeats 1000000 in
theorem newB_ok (D B Q : Nat) (lb : List (Nat × Nat)) (ub : Value) (W : World) (h2 : Ps No (Seq (kA 2 eP) lb ub) W) (glb : lb.length ≤ 1000) (hlb : ∀ i, i < lb.length → (lb.getD i (0, 0)).1 < D ∧ (lb.getD i (0, 0)).2 < B) (hD : 6 ≤ D ∧ D ≤ 8) (hB : 8 ≤ B ∧ B ≤ 12) (hQ : 4 ≤ Q ∧ Q ≤ 8) :
    CW Try.prog 13 #[(Value.agg #[(eN D), (eN B), (eN Q)]), ub] W (Rt (fun u w => ∃ L s, u = .tuple #[ptr L.bN 0, eN 0] ∧ (Nd L s (Old W.heap.size) w ∧ ∀ k, L.S k → W.heap.size ≤ k) ∧ NewI s D B Q lb ∧ Only No W w)) := by
 have oW : Only No W W := Only.refl _ _
 refine enter (al := [(Value.agg #[(eN D), (eN B), (eN Q)]), ub]) (k := 80) (l := ([(Value.agg #[(eN D), (eN B), (eN Q)]), ub] ++ (us 80))) Try.func13 rfl Try.ntmps13 rfl rfl ?_
 have m1_ : D * B ≤ 8 * 12 := Nat.mul_le_mul hD.2 hB.2
 have m2_ : D * B * Q ≤ 8 * 12 * 8 := Nat.mul_le_mul m1_ hQ.2
 have h2W := h2
 refine wpIn_seq ?_
 refine plain ?_
 refine wO (d_box rfl rfl) ?_
 rintro _ w11 ⟨gb, rfl, g12, a13, o14⟩
 have g_oW_gb : W.heap.size ≤ gb := Nat.le_trans oW.size g12
 replace oW := oW.tail0 o14
 refine wI (d_assign rfl) ?_
 refine wI (d_assign rfl) ?_
 refine wF ([(Value.agg #[(eN D), (eN B), (eN Q)]), ub, (ptr gb 0), undef, (Value.pointer none), (eN 0)] ++ (us 76)) ?_
 refine wpL.done ?_
 refine then_n ?_
 refine wpIn_seq ?_
 refine wpIn_seq ?_
 refine plain ?_
 refine wI (d_loadAg (vs := [(eN D), (eN B), (eN Q)]) ⟨_, Try.underlying23, rfl⟩ s_ti23 rfl a13 rfl rfl) ?_
 refine wO (d_call (xl := [.tmp 10]) (al := [(Value.agg #[(eN D), (eN B), (eN Q)])]) Try.func36 (by kernel_rfl) rfl rfl rfl (fits_ok D B Q _ (by omega) (by omega) (by omega))) ?_
 rintro _ w15 ⟨rfl, o16⟩
 replace a13 := a13.step0 o16
 replace oW := oW.tail0 o16
 refine wI (d_not rfl rfl) ?_
 refine wF ([(Value.agg #[(eN D), (eN B), (eN Q)]), ub, (ptr gb 0), undef, (Value.pointer none), (eN 0), undef, undef, undef, undef, (Value.agg #[(eN D), (eN B), (eN Q)]), (Value.bool true), (Value.bool false)] ++ (us 69)) ?_
 refine wpL.done ?_
 refine then_n ?_
 refine cond_f rfl ?_
 refine wpIn_skip ?_
 refine then_n ?_
 refine wpIn_seq ?_
 have hX0_ : ∀ k, (Or1 gb (Old W.heap.size)) k → k < w15.heap.size := (lt_or1 a13.lt (fun k t => Nat.lt_of_lt_of_le t oW.size))
 have hO0_ : ∀ k, (Or1 gb No) k → k < w15.heap.size := fun k h => hX0_ k ((or1_mono no_any) k h)
 refine drawnT (O := (Or1 gb No)) (n := 8) 5 [0, 0, 2, 0, 14, 31, 63, 127] [(0, 13), (1, 14), (2, 15), (3, 16), (4, 17), (5, 18), (6, 19), (7, 6)] [(0, 13), (1, 14), (2, 15), (3, 16), (4, 17)] [0, 1, 2, 3, 4] [] (fun i_ => ([RF.is (Or1 gb No) (Value.agg #[(eN D), (eN B), (eN Q)]), RF.is (Or1 gb No) (Value.agg #[(eN D), (eN B), (eN Q)]), RF.mk_ (Or1 gb No) (fun b_ => (Value.agg #[(eN D), (eN B), (eN Q), (sli b_ 0 (D * B * Q) (D * B * Q))])) 36 (List.replicate (D * B * Q) (Value.slice none 0 0)) w15.heap.size hO0_, RF.is (Or1 gb No) (Value.agg #[(eN D), (eN B), (eN Q)]), RF.mk_ (Or1 gb No) (fun b_ => (Value.agg #[(eN D), (eN B), (eN Q), (sli b_ 0 (D * B * Q) (D * B * Q))])) 37 (List.replicate (D * B * Q) (Value.slice none 0 0)) w15.heap.size hO0_] : List (RF (Or1 gb No))).getD i_ (RF.any (Or1 gb No))) (fun _ w_ => Arr 23 gb [(eN D), (eN B), (eN Q)] w_) (fun v17 => ([(Value.agg #[(eN D), (eN B), (eN Q)]), ub, (ptr gb 0), undef, (Value.pointer none), (eN 0), (v17 7), undef, undef, undef, (Value.agg #[(eN D), (eN B), (eN Q)]), (Value.bool true), (Value.bool false), (v17 0), (v17 1), (v17 2), (v17 3), (v17 4), (v17 5), (v17 6)] ++ (us 62))) (fun v17 => ([(Value.agg #[(eN D), (eN B), (eN Q)]), ub, (ptr gb 0), undef, (Value.pointer none), (eN 0), undef, undef, undef, undef, (Value.agg #[(eN D), (eN B), (eN Q)]), (Value.bool true), (Value.bool false), (v17 0), (v17 1), (v17 2), (v17 3), (v17 4)] ++ (us 64))) s_mx (by kernel_rfl) rfl (by decide) (by rfl) (by kernel_rfl) (by kernel_rfl) (by kernel_rfl) (by rfl) (fun v_ => by kernel_rfl) (fun v_ => by kernel_rfl) (fun _ => fun w_ w2_ h ho => by have r_a13 := h; exact r_a13.step0 ho) a13 ?_ ?_ ?_
 ·
  refine ls_cons ?_ ?_
  ·
   intro v17 lo hi w_ k_ hO hd _ _ hk_ _ hR hold
   have r_a13 := hR
   clear hd hold
   refine ⟨_, rfl, gd rfl ?_⟩
   exact Does.is (d_loadAg (vs := [(eN D), (eN B), (eN Q)]) ⟨_, Try.underlying23, rfl⟩ s_ti23 rfl r_a13 rfl rfl)
  refine ls_cons ?_ ?_
  ·
   intro v17 lo hi w_ k_ hO hd _ _ hk_ _ hR hold
   have r_a13 := hR
   clear hd hold
   refine ⟨_, rfl, gd rfl ?_⟩
   exact Does.is (d_loadAg (vs := [(eN D), (eN B), (eN Q)]) ⟨_, Try.underlying23, rfl⟩ s_ti23 rfl r_a13 rfl rfl)
  refine ls_cons ?_ ?_
  ·
   intro v17 lo hi w_ k_ hO hd _ _ hk_ _ hR hold
   have r_a13 := hR
   have e1 : v17 1 = (Value.agg #[(eN D), (eN B), (eN Q)]) := hd 1 (by kernel_rfl)
   clear hd hold
   refine ⟨_, rfl, gd rfl ?_⟩
   refine Does.mono (R := Made 36 w_ (fun b_ => (Value.agg #[(eN D), (eN B), (eN Q), (sli b_ 0 (D * B * Q) (D * B * Q))])) (List.replicate (D * B * Q) (Value.slice none 0 0))) ?_ (fun u w' h => by obtain ⟨b_, rfl, hb_, hA_, hO_⟩ := h; exact ⟨⟨b_, rfl, hA_, Nat.le_trans hO.size hb_⟩, hO_⟩)
   exact d_call (xl := [.tmp 14]) (al := [(Value.agg #[(eN D), (eN B), (eN Q)])]) Try.func37 (by kernel_rfl) rfl (show ([(v17 1)] : List Value) = [(Value.agg #[(eN D), (eN B), (eN Q)])] from by rw [e1]) rfl (noneD_ok D B Q _ (by omega) (by omega) (by omega))
  refine ls_cons ?_ ?_
  ·
   intro v17 lo hi w_ k_ hO hd _ _ hk_ _ hR hold
   have r_a13 := hR
   clear hd hold
   refine ⟨_, rfl, gd rfl ?_⟩
   exact Does.is (d_loadAg (vs := [(eN D), (eN B), (eN Q)]) ⟨_, Try.underlying23, rfl⟩ s_ti23 rfl r_a13 rfl rfl)
  refine ls_cons ?_ ?_
  ·
   intro v17 lo hi w_ k_ hO hd _ _ hk_ _ hR hold
   have r_a13 := hR
   have e3 : v17 3 = (Value.agg #[(eN D), (eN B), (eN Q)]) := hd 3 (by kernel_rfl)
   clear hd hold
   refine ⟨_, rfl, gd rfl ?_⟩
   refine Does.mono (R := Made 37 w_ (fun b_ => (Value.agg #[(eN D), (eN B), (eN Q), (sli b_ 0 (D * B * Q) (D * B * Q))])) (List.replicate (D * B * Q) (Value.slice none 0 0))) ?_ (fun u w' h => by obtain ⟨b_, rfl, hb_, hA_, hO_⟩ := h; exact ⟨⟨b_, rfl, hA_, Nat.le_trans hO.size hb_⟩, hO_⟩)
   exact d_call (xl := [.tmp 16]) (al := [(Value.agg #[(eN D), (eN B), (eN Q)])]) Try.func38 (by kernel_rfl) rfl (show ([(v17 3)] : List Value) = [(Value.agg #[(eN D), (eN B), (eN Q)])] from by rw [e3]) rfl (noneZ_ok D B Q _ (by omega) (by omega) (by omega))
  exact ls_nil
 ·
  exact ms_nil
 intro v17 lo_ hi_ w18 o19 hd iv_ hR
 have e0 : v17 0 = (Value.agg #[(eN D), (eN B), (eN Q)]) := hd 0 (by decide)
 have e1 : v17 1 = (Value.agg #[(eN D), (eN B), (eN Q)]) := hd 1 (by decide)
 have e3 : v17 3 = (Value.agg #[(eN D), (eN B), (eN Q)]) := hd 3 (by decide)
 obtain ⟨db, e2, a20, g21⟩ : ∃ b_, v17 2 = (fun b_ => (Value.agg #[(eN D), (eN B), (eN Q), (sli b_ 0 (D * B * Q) (D * B * Q))])) b_ ∧ Arr 36 b_ (List.replicate (D * B * Q) (Value.slice none 0 0)) w18 ∧ w15.heap.size ≤ b_ := hd 2 (by decide)
 dsimp only at e2
 have n_gb_db : gb ≠ db := a13.ne g21
 have g_oW_db : W.heap.size ≤ db := Nat.le_trans oW.size g21
 obtain ⟨zb, e4, a22, g23⟩ : ∃ b_, v17 4 = (fun b_ => (Value.agg #[(eN D), (eN B), (eN Q), (sli b_ 0 (D * B * Q) (D * B * Q))])) b_ ∧ Arr 37 b_ (List.replicate (D * B * Q) (Value.slice none 0 0)) w18 ∧ w15.heap.size ≤ b_ := hd 4 (by decide)
 dsimp only at e4
 have n_gb_zb : gb ≠ zb := a13.ne g23
 have g_oW_zb : W.heap.size ≤ zb := Nat.le_trans oW.size g23
 have n_db_zb : db ≠ zb := arr_ne a20 a22 (by decide)
 clear hd iv_ lo_ hi_
 refine wpL.flat ([(Value.agg #[(eN D), (eN B), (eN Q)]), ub, (ptr gb 0), undef, (Value.pointer none), (eN 0), undef, undef, undef, undef, (Value.agg #[(eN D), (eN B), (eN Q)]), (Value.bool true), (Value.bool false), (Value.agg #[(eN D), (eN B), (eN Q)]), (Value.agg #[(eN D), (eN B), (eN Q)]), (Value.agg #[(eN D), (eN B), (eN Q), (sli db 0 (D * B * Q) (D * B * Q))]), (Value.agg #[(eN D), (eN B), (eN Q)]), (Value.agg #[(eN D), (eN B), (eN Q), (sli zb 0 (D * B * Q) (D * B * Q))])] ++ (us 64)) (by rw [e0, e1, e3, e2, e4] <;> rfl) ?_
 clear e0 e1 e3 e2 e4
 replace a13 : Arr 23 gb [(eN D), (eN B), (eN Q)] w18 := hR
 clear hR
 replace oW := oW.tail o19 (tl_new g_oW_gb tl_no)
 refine wI (d_buildS (pl := [(0, 3), (3, 4), (7, 4), (11, 1), (12, 1), (13, 1), (14, 1), (15, 1), (16, 1)]) (zs := [(eN 0), (eN 0), (eN 0), (eN 0), (eN 0), (eN 0), (Value.slice none 0 0), (eN 0), (eN 0), (eN 0), (Value.slice none 0 0), (Value.slice none 0 0), (eN 0), (Value.slice none 0 0), (Value.bool false), (eN 0), (eN 0)]) (cs := [(eN D), (eN B), (eN Q), (eN D), (eN B), (eN Q), (sli db 0 (D * B * Q) (D * B * Q)), (eN D), (eN B), (eN Q), (sli zb 0 (D * B * Q) (D * B * Q)), (Value.slice none 0 0), (eN 0), (Value.slice none 0 0), (Value.bool false), (eN 0), (eN 0)]) Try.underlying73 s_ti73 ⟨_, _, _, _, rfl, s_ti23, ⟨_, _, _, _, rfl, s_ti65, ⟨_, _, _, _, rfl, s_ti69, ⟨_, _, _, _, rfl, s_ti71, ⟨_, _, _, _, rfl, s_ti3, ⟨_, _, _, _, rfl, s_ti36, ⟨_, _, _, _, rfl, s_ti4, ⟨_, _, _, _, rfl, s_ti3, ⟨_, _, _, _, rfl, s_ti3, rfl⟩⟩⟩⟩⟩⟩⟩⟩⟩ rfl (parts_cons (vs := [(eN D), (eN B), (eN Q)]) (cells_of (v := (Value.agg #[(eN D), (eN B), (eN Q)])) rfl rfl) (parts_cons (vs := [(eN D), (eN B), (eN Q), (sli db 0 (D * B * Q) (D * B * Q))]) (cells_of (v := (Value.agg #[(eN D), (eN B), (eN Q), (sli db 0 (D * B * Q) (D * B * Q))])) rfl rfl) (parts_cons (vs := [(eN D), (eN B), (eN Q), (sli zb 0 (D * B * Q) (D * B * Q))]) (cells_of (v := (Value.agg #[(eN D), (eN B), (eN Q), (sli zb 0 (D * B * Q) (D * B * Q))])) rfl rfl) parts_nil))) rfl) ?_
 refine wF ([(Value.agg #[(eN D), (eN B), (eN Q)]), ub, (ptr gb 0), undef, (Value.pointer none), (eN 0), undef, undef, undef, undef, (Value.agg #[(eN D), (eN B), (eN Q)]), (Value.bool true), (Value.bool false), (Value.agg #[(eN D), (eN B), (eN Q)]), (Value.agg #[(eN D), (eN B), (eN Q)]), (Value.agg #[(eN D), (eN B), (eN Q), (sli db 0 (D * B * Q) (D * B * Q))]), (Value.agg #[(eN D), (eN B), (eN Q)]), (Value.agg #[(eN D), (eN B), (eN Q), (sli zb 0 (D * B * Q) (D * B * Q))]), (Value.agg #[(eN D), (eN B), (eN Q), (eN D), (eN B), (eN Q), (sli db 0 (D * B * Q) (D * B * Q)), (eN D), (eN B), (eN Q), (sli zb 0 (D * B * Q) (D * B * Q)), (Value.slice none 0 0), (eN 0), (Value.slice none 0 0), (Value.bool false), (eN 0), (eN 0)])] ++ (us 63)) ?_
 refine wO (d_box rfl rfl) ?_
 rintro _ w24 ⟨cb, rfl, g25, a26, o27⟩
 have n_gb_cb : gb ≠ cb := a13.ne g25
 have n_db_cb : db ≠ cb := a20.ne g25
 have n_zb_cb : zb ≠ cb := a22.ne g25
 have g_oW_cb : W.heap.size ≤ cb := Nat.le_trans oW.size g25
 replace a13 := a13.step0 o27
 replace a20 := a20.step0 o27
 replace a22 := a22.step0 o27
 replace oW := oW.tail0 o27
 refine wI (d_assign rfl) ?_
 refine wF ([(Value.agg #[(eN D), (eN B), (eN Q)]), ub, (ptr gb 0), undef, (Value.pointer none), (eN 0), (ptr cb 0), undef, undef, undef, (Value.agg #[(eN D), (eN B), (eN Q)]), (Value.bool true), (Value.bool false), (Value.agg #[(eN D), (eN B), (eN Q)]), (Value.agg #[(eN D), (eN B), (eN Q)]), (Value.agg #[(eN D), (eN B), (eN Q), (sli db 0 (D * B * Q) (D * B * Q))]), (Value.agg #[(eN D), (eN B), (eN Q)]), (Value.agg #[(eN D), (eN B), (eN Q), (sli zb 0 (D * B * Q) (D * B * Q))]), (Value.agg #[(eN D), (eN B), (eN Q), (eN D), (eN B), (eN Q), (sli db 0 (D * B * Q) (D * B * Q)), (eN D), (eN B), (eN Q), (sli zb 0 (D * B * Q) (D * B * Q)), (Value.slice none 0 0), (eN 0), (Value.slice none 0 0), (Value.bool false), (eN 0), (eN 0)]), (ptr cb 0)] ++ (us 62)) ?_
 refine wpL.done ?_
 refine then_n ?_
 refine wpIn_seq ?_
 refine wpIn_seq ?_
 refine plain ?_
 refine wI (d_move rfl) ?_
 refine wI (d_nilCheck (b := cb) (o := 0) rfl) ?_
 refine wI (d_fieldAddr (j := 3) Try.underlying73 rfl s_ti65 (by decide) rfl rfl) ?_
 refine wF ([(Value.agg #[(eN D), (eN B), (eN Q)]), ub, (ptr gb 0), undef, (Value.pointer none), (eN 0), (ptr cb 0), undef, undef, undef, (Value.agg #[(eN D), (eN B), (eN Q)]), (Value.bool true), (Value.bool false), (Value.agg #[(eN D), (eN B), (eN Q)]), (Value.agg #[(eN D), (eN B), (eN Q)]), (Value.agg #[(eN D), (eN B), (eN Q), (sli db 0 (D * B * Q) (D * B * Q))]), (Value.agg #[(eN D), (eN B), (eN Q)]), (Value.agg #[(eN D), (eN B), (eN Q), (sli zb 0 (D * B * Q) (D * B * Q))]), (Value.agg #[(eN D), (eN B), (eN Q), (eN D), (eN B), (eN Q), (sli db 0 (D * B * Q) (D * B * Q)), (eN D), (eN B), (eN Q), (sli zb 0 (D * B * Q) (D * B * Q)), (Value.slice none 0 0), (eN 0), (Value.slice none 0 0), (Value.bool false), (eN 0), (eN 0)]), (ptr cb 0), (ptr cb 0), (ptr cb 0), (ptr cb 3)] ++ (us 59)) ?_
 refine wI (d_fieldAddr (j := 6) Try.underlying65 rfl s_ti63 (by decide) rfl rfl) ?_
 refine wI (d_load (v := (sli db 0 (D * B * Q) (D * B * Q))) ⟨_, Try.underlying63, rfl⟩ rfl a26 rfl) ?_
 refine wI (d_len rfl Try.underlying63 rfl) ?_
 refine wF ([(Value.agg #[(eN D), (eN B), (eN Q)]), ub, (ptr gb 0), undef, (Value.pointer none), (eN 0), (ptr cb 0), undef, undef, undef, (Value.agg #[(eN D), (eN B), (eN Q)]), (Value.bool true), (Value.bool false), (Value.agg #[(eN D), (eN B), (eN Q)]), (Value.agg #[(eN D), (eN B), (eN Q)]), (Value.agg #[(eN D), (eN B), (eN Q), (sli db 0 (D * B * Q) (D * B * Q))]), (Value.agg #[(eN D), (eN B), (eN Q)]), (Value.agg #[(eN D), (eN B), (eN Q), (sli zb 0 (D * B * Q) (D * B * Q))]), (Value.agg #[(eN D), (eN B), (eN Q), (eN D), (eN B), (eN Q), (sli db 0 (D * B * Q) (D * B * Q)), (eN D), (eN B), (eN Q), (sli zb 0 (D * B * Q) (D * B * Q)), (Value.slice none 0 0), (eN 0), (Value.slice none 0 0), (Value.bool false), (eN 0), (eN 0)]), (ptr cb 0), (ptr cb 0), (ptr cb 0), (ptr cb 3), (ptr cb 6), (sli db 0 (D * B * Q) (D * B * Q)), (eN (D * B * Q))] ++ (us 56)) ?_
 refine wI (d_move rfl) ?_
 refine wF ([(Value.agg #[(eN D), (eN B), (eN Q)]), ub, (ptr gb 0), undef, (Value.pointer none), (eN 0), (ptr cb 0), undef, undef, undef, (Value.agg #[(eN D), (eN B), (eN Q)]), (Value.bool true), (Value.bool false), (Value.agg #[(eN D), (eN B), (eN Q)]), (Value.agg #[(eN D), (eN B), (eN Q)]), (Value.agg #[(eN D), (eN B), (eN Q), (sli db 0 (D * B * Q) (D * B * Q))]), (Value.agg #[(eN D), (eN B), (eN Q)]), (Value.agg #[(eN D), (eN B), (eN Q), (sli zb 0 (D * B * Q) (D * B * Q))]), (Value.agg #[(eN D), (eN B), (eN Q), (eN D), (eN B), (eN Q), (sli db 0 (D * B * Q) (D * B * Q)), (eN D), (eN B), (eN Q), (sli zb 0 (D * B * Q) (D * B * Q)), (Value.slice none 0 0), (eN 0), (Value.slice none 0 0), (Value.bool false), (eN 0), (eN 0)]), (ptr cb 0), (ptr cb 0), (ptr cb 0), (ptr cb 3), (ptr cb 6), (sli db 0 (D * B * Q) (D * B * Q)), (eN (D * B * Q)), (eN 0)] ++ (us 55)) ?_
 refine wpL.done ?_
 refine then_n ?_
 refine wpIn_block ?_
 replace a20 : Arr 36 db ((List.replicate (D * B * Q) (Value.slice none 0 0)).map eV) w24 := by rw [map_eV]; exact a20
 have l_db : (List.replicate (D * B * Q) (Value.slice none 0 0)).length = D * B * Q := List.length_replicate
 refine loop2 (fun (s_ : (Nat) × (List Value)) => match s_ with | ⟨i, vd⟩ => fun (z : Nat → Value) => (([(Value.agg #[(eN D), (eN B), (eN Q)]), ub, (ptr gb 0), undef, (Value.pointer none), (eN 0), (ptr cb 0), (z 7), undef, undef, (Value.agg #[(eN D), (eN B), (eN Q)]), (Value.bool true), (Value.bool false), (Value.agg #[(eN D), (eN B), (eN Q)]), (Value.agg #[(eN D), (eN B), (eN Q)]), (Value.agg #[(eN D), (eN B), (eN Q), (sli db 0 (D * B * Q) (D * B * Q))]), (Value.agg #[(eN D), (eN B), (eN Q)]), (Value.agg #[(eN D), (eN B), (eN Q), (sli zb 0 (D * B * Q) (D * B * Q))]), (Value.agg #[(eN D), (eN B), (eN Q), (eN D), (eN B), (eN Q), (sli db 0 (D * B * Q) (D * B * Q)), (eN D), (eN B), (eN Q), (sli zb 0 (D * B * Q) (D * B * Q)), (Value.slice none 0 0), (eN 0), (Value.slice none 0 0), (Value.bool false), (eN 0), (eN 0)]), (ptr cb 0), (ptr cb 0), (ptr cb 0), (ptr cb 3), (ptr cb 6), (sli db 0 (D * B * Q) (D * B * Q)), (eN (D * B * Q)), (eN i)] ++ (zs z 27 11 ++ (us 44))) : List Value)) (fun (s_ : (Nat) × (List Value)) => match s_ with | ⟨i, vd⟩ => fun (w_ : World) => (i ≤ D * B * Q) ∧ (Ps (Or1 cb (Or1 zb (Or1 db (Or1 gb (Old W.heap.size))))) (Fam kB i (fun _ => onesW) vd) w_) ∧ Only (Or1 cb (Or1 zb (Or1 db (Or1 gb No)))) w24 w_ ∧ Arr 23 gb [(eN D), (eN B), (eN Q)] w_ ∧ vd.length = D * B * Q ∧ Arr 36 db (vd.map eV) w_ ∧ Arr 37 zb (List.replicate (D * B * Q) (Value.slice none 0 0)) w_ ∧ Arr 73 cb [(eN D), (eN B), (eN Q), (eN D), (eN B), (eN Q), (sli db 0 (D * B * Q) (D * B * Q)), (eN D), (eN B), (eN Q), (sli zb 0 (D * B * Q) (D * B * Q)), (Value.slice none 0 0), (eN 0), (Value.slice none 0 0), (Value.bool false), (eN 0), (eN 0)] w_) (fun (s_ : (Nat) × (List Value)) => match s_ with | ⟨i, vd⟩ => D * B * Q - i) ⟨0, (List.replicate (D * B * Q) (Value.slice none 0 0))⟩ rfl ?_ ?_
 ·
  refine ⟨?_, ?_, ?_, ?_, ?_, ?_, ?_, ?_⟩
  ·
   exact Nat.zero_le _
  ·
   exact fun w' _ k hk => absurd hk (Nat.not_lt_zero k)
  ·
   exact Only.refl _ _
  ·
   exact a13
  ·
   exact l_db
  ·
   exact a20
  ·
   exact a22
  ·
   exact a26
 rintro ⟨i, vd⟩ z w29 ⟨hi, hF, o28, a13, l_db, a20, a22, a26⟩
 (try dsimp only)
 replace oW := oW.tail o28 (tl_new g_oW_cb (tl_new g_oW_zb (tl_new g_oW_db (tl_new g_oW_gb tl_no))))
 refine wpIn_seq ?_
 refine plain ?_
 refine wI (n_lss (a := i) (b := (D * B * Q)) rfl rfl rfl) ?_
 refine wF ([(Value.agg #[(eN D), (eN B), (eN Q)]), ub, (ptr gb 0), undef, (Value.pointer none), (eN 0), (ptr cb 0), (z 7), undef, undef, (Value.agg #[(eN D), (eN B), (eN Q)]), (Value.bool true), (Value.bool false), (Value.agg #[(eN D), (eN B), (eN Q)]), (Value.agg #[(eN D), (eN B), (eN Q)]), (Value.agg #[(eN D), (eN B), (eN Q), (sli db 0 (D * B * Q) (D * B * Q))]), (Value.agg #[(eN D), (eN B), (eN Q)]), (Value.agg #[(eN D), (eN B), (eN Q), (sli zb 0 (D * B * Q) (D * B * Q))]), (Value.agg #[(eN D), (eN B), (eN Q), (eN D), (eN B), (eN Q), (sli db 0 (D * B * Q) (D * B * Q)), (eN D), (eN B), (eN Q), (sli zb 0 (D * B * Q) (D * B * Q)), (Value.slice none 0 0), (eN 0), (Value.slice none 0 0), (Value.bool false), (eN 0), (eN 0)]), (ptr cb 0), (ptr cb 0), (ptr cb 0), (ptr cb 3), (ptr cb 6), (sli db 0 (D * B * Q) (D * B * Q)), (eN (D * B * Q)), (eN i), (Value.bool (decide (i < (D * B * Q))))] ++ (zs z 28 10 ++ (us 44))) ?_
 refine wpL.done ?_
 refine then_n ?_
 refine wpIn_seq ?_
 refine cond_if rfl (fun c30 => ?_) (fun c30 => ?_)
 ·
  refine wpIn_skip ?_
  refine then_n ?_
  refine wpIn_seq ?_
  refine wpIn_block ?_
  refine wpIn_seq ?_
  refine plain ?_
  refine wI (d_move rfl) ?_
  refine wI (d_assign rfl) ?_
  refine wF ([(Value.agg #[(eN D), (eN B), (eN Q)]), ub, (ptr gb 0), undef, (Value.pointer none), (eN 0), (ptr cb 0), (eN i), undef, undef, (Value.agg #[(eN D), (eN B), (eN Q)]), (Value.bool true), (Value.bool false), (Value.agg #[(eN D), (eN B), (eN Q)]), (Value.agg #[(eN D), (eN B), (eN Q)]), (Value.agg #[(eN D), (eN B), (eN Q), (sli db 0 (D * B * Q) (D * B * Q))]), (Value.agg #[(eN D), (eN B), (eN Q)]), (Value.agg #[(eN D), (eN B), (eN Q), (sli zb 0 (D * B * Q) (D * B * Q))]), (Value.agg #[(eN D), (eN B), (eN Q), (eN D), (eN B), (eN Q), (sli db 0 (D * B * Q) (D * B * Q)), (eN D), (eN B), (eN Q), (sli zb 0 (D * B * Q) (D * B * Q)), (Value.slice none 0 0), (eN 0), (Value.slice none 0 0), (Value.bool false), (eN 0), (eN 0)]), (ptr cb 0), (ptr cb 0), (ptr cb 0), (ptr cb 3), (ptr cb 6), (sli db 0 (D * B * Q) (D * B * Q)), (eN (D * B * Q)), (eN i), (Value.bool (decide (i < (D * B * Q)))), (eN i)] ++ (zs z 29 9 ++ (us 44))) ?_
  refine wpL.done ?_
  refine then_n ?_
  refine drawnT (O := (Or1 cb (Or1 zb (Or1 db (Or1 gb No))))) (n := 9) 7 [0, 1, 3, 7, 15, 0, 0, 127, 255] [(0, 29), (1, 30), (2, 31), (3, 32), (4, 33), (5, 34), (6, 35), (7, 36)] [(0, 29), (1, 30), (2, 31), (3, 32), (4, 33), (5, 34), (6, 35)] [0, 1, 2, 3, 4, 5, 6] [] (fun i_ => ([RF.is (Or1 cb (Or1 zb (Or1 db (Or1 gb No)))) (ptr cb 0), RF.is (Or1 cb (Or1 zb (Or1 db (Or1 gb No)))) (ptr cb 0), RF.is (Or1 cb (Or1 zb (Or1 db (Or1 gb No)))) (ptr cb 3), RF.is (Or1 cb (Or1 zb (Or1 db (Or1 gb No)))) (ptr cb 6), RF.is (Or1 cb (Or1 zb (Or1 db (Or1 gb No)))) (sli db 0 (D * B * Q) (D * B * Q)), RF.is (Or1 cb (Or1 zb (Or1 db (Or1 gb No)))) (eN i), RF.ps (Or1 cb (Or1 zb (Or1 db (Or1 gb No)))) (Or1 cb (Or1 zb (Or1 db (Or1 gb (Old W.heap.size))))) (Seq kB onesW) (or1_mono (or1_mono (or1_mono (or1_mono no_any))))] : List (RF (Or1 cb (Or1 zb (Or1 db (Or1 gb No)))))).getD i_ (RF.any (Or1 cb (Or1 zb (Or1 db (Or1 gb No)))))) (fun _ w_ => Arr 23 gb [(eN D), (eN B), (eN Q)] w_ ∧ Arr 36 db (vd.map eV) w_ ∧ Arr 37 zb (List.replicate (D * B * Q) (Value.slice none 0 0)) w_ ∧ Arr 73 cb [(eN D), (eN B), (eN Q), (eN D), (eN B), (eN Q), (sli db 0 (D * B * Q) (D * B * Q)), (eN D), (eN B), (eN Q), (sli zb 0 (D * B * Q) (D * B * Q)), (Value.slice none 0 0), (eN 0), (Value.slice none 0 0), (Value.bool false), (eN 0), (eN 0)] w_) (fun v31 => ([(Value.agg #[(eN D), (eN B), (eN Q)]), ub, (ptr gb 0), undef, (Value.pointer none), (eN 0), (ptr cb 0), (eN i), undef, undef, (Value.agg #[(eN D), (eN B), (eN Q)]), (Value.bool true), (Value.bool false), (Value.agg #[(eN D), (eN B), (eN Q)]), (Value.agg #[(eN D), (eN B), (eN Q)]), (Value.agg #[(eN D), (eN B), (eN Q), (sli db 0 (D * B * Q) (D * B * Q))]), (Value.agg #[(eN D), (eN B), (eN Q)]), (Value.agg #[(eN D), (eN B), (eN Q), (sli zb 0 (D * B * Q) (D * B * Q))]), (Value.agg #[(eN D), (eN B), (eN Q), (eN D), (eN B), (eN Q), (sli db 0 (D * B * Q) (D * B * Q)), (eN D), (eN B), (eN Q), (sli zb 0 (D * B * Q) (D * B * Q)), (Value.slice none 0 0), (eN 0), (Value.slice none 0 0), (Value.bool false), (eN 0), (eN 0)]), (ptr cb 0), (ptr cb 0), (ptr cb 0), (ptr cb 3), (ptr cb 6), (sli db 0 (D * B * Q) (D * B * Q)), (eN (D * B * Q)), (eN i), (Value.bool (decide (i < (D * B * Q)))), (eN i), (v31 0), (v31 1), (v31 2), (v31 3), (v31 4), (v31 5), (v31 6), (v31 7), (z 37)] ++ (us 44))) (fun v31 => ([(Value.agg #[(eN D), (eN B), (eN Q)]), ub, (ptr gb 0), undef, (Value.pointer none), (eN 0), (ptr cb 0), (eN i), undef, undef, (Value.agg #[(eN D), (eN B), (eN Q)]), (Value.bool true), (Value.bool false), (Value.agg #[(eN D), (eN B), (eN Q)]), (Value.agg #[(eN D), (eN B), (eN Q)]), (Value.agg #[(eN D), (eN B), (eN Q), (sli db 0 (D * B * Q) (D * B * Q))]), (Value.agg #[(eN D), (eN B), (eN Q)]), (Value.agg #[(eN D), (eN B), (eN Q), (sli zb 0 (D * B * Q) (D * B * Q))]), (Value.agg #[(eN D), (eN B), (eN Q), (eN D), (eN B), (eN Q), (sli db 0 (D * B * Q) (D * B * Q)), (eN D), (eN B), (eN Q), (sli zb 0 (D * B * Q) (D * B * Q)), (Value.slice none 0 0), (eN 0), (Value.slice none 0 0), (Value.bool false), (eN 0), (eN 0)]), (ptr cb 0), (ptr cb 0), (ptr cb 0), (ptr cb 3), (ptr cb 6), (sli db 0 (D * B * Q) (D * B * Q)), (eN (D * B * Q)), (eN i), (Value.bool (decide (i < (D * B * Q)))), (eN i), (v31 0), (v31 1), (v31 2), (v31 3), (v31 4), (v31 5), (v31 6), (z 36), (z 37)] ++ (us 44))) s_mx (by kernel_rfl) rfl (by decide) (by rfl) (by kernel_rfl) (by kernel_rfl) (by kernel_rfl) (by rfl) (fun v_ => by kernel_rfl) (fun v_ => by kernel_rfl) (fun _ => fun w_ w2_ h ho => by obtain ⟨r_a13, r_a20, r_a22, r_a26⟩ := h; exact ⟨r_a13.step0 ho, r_a20.step0 ho, r_a22.step0 ho, r_a26.step0 ho⟩) ⟨a13, a20, a22, a26⟩ ?_ ?_ ?_
  ·
   refine ls_cons ?_ ?_
   ·
    intro v31 lo hi w_ k_ hO hd _ _ hk_ _ hR hold
    obtain ⟨r_a13, r_a20, r_a22, r_a26⟩ := hR
    clear hd hold
    refine ⟨_, rfl, gd rfl ?_⟩
    exact Does.is (d_move rfl)
   refine ls_cons ?_ ?_
   ·
    intro v31 lo hi w_ k_ hO hd _ _ hk_ _ hR hold
    obtain ⟨r_a13, r_a20, r_a22, r_a26⟩ := hR
    have e0 : v31 0 = (ptr cb 0) := hd 0 (by kernel_rfl)
    clear hd hold
    refine ⟨_, rfl, gd rfl ?_⟩
    exact Does.is (d_nilCheck (b := cb) (o := 0) e0)
   refine ls_cons ?_ ?_
   ·
    intro v31 lo hi w_ k_ hO hd _ _ hk_ _ hR hold
    obtain ⟨r_a13, r_a20, r_a22, r_a26⟩ := hR
    have e1 : v31 1 = (ptr cb 0) := hd 1 (by kernel_rfl)
    clear hd hold
    refine ⟨_, rfl, gd rfl ?_⟩
    exact Does.is (d_fieldAddr (j := 3) Try.underlying73 rfl s_ti65 (by decide) e1 rfl)
   refine ls_cons ?_ ?_
   ·
    intro v31 lo hi w_ k_ hO hd _ _ hk_ _ hR hold
    obtain ⟨r_a13, r_a20, r_a22, r_a26⟩ := hR
    have e2 : v31 2 = (ptr cb 3) := hd 2 (by kernel_rfl)
    clear hd hold
    refine ⟨_, rfl, gd rfl ?_⟩
    exact Does.is (d_fieldAddr (j := 6) Try.underlying65 rfl s_ti63 (by decide) e2 rfl)
   refine ls_cons ?_ ?_
   ·
    intro v31 lo hi w_ k_ hO hd _ _ hk_ _ hR hold
    obtain ⟨r_a13, r_a20, r_a22, r_a26⟩ := hR
    have e3 : v31 3 = (ptr cb 6) := hd 3 (by kernel_rfl)
    clear hd hold
    refine ⟨_, rfl, gd rfl ?_⟩
    exact Does.is (d_load (v := (sli db 0 (D * B * Q) (D * B * Q))) ⟨_, Try.underlying63, rfl⟩ e3 r_a26 rfl)
   refine ls_cons ?_ ?_
   ·
    intro v31 lo hi w_ k_ hO hd _ _ hk_ _ hR hold
    obtain ⟨r_a13, r_a20, r_a22, r_a26⟩ := hR
    clear hd hold
    refine ⟨_, rfl, gd rfl ?_⟩
    exact Does.is (d_move rfl)
   refine ls_cons ?_ ?_
   ·
    intro v31 lo hi w_ k_ hO hd _ _ hk_ _ hR hold
    obtain ⟨r_a13, r_a20, r_a22, r_a26⟩ := hR
    clear hd hold
    refine ⟨_, rfl, gd rfl ?_⟩
    refine Does.mono (R := ROw 5 eB onesW w_) ?_ (fun u w' h => ⟨(h.ps).1.less (or1_old r_a26.lt (or1_old r_a22.lt (or1_old r_a20.lt (or1_old r_a13.lt (old_old (Nat.le_trans oW.size hO.size)))))), (h.ps).2⟩)
    exact d_call (xl := []) (al := []) Try.func39 (by kernel_rfl) rfl rfl rfl (blank_ok _)
   exact ls_nil
  ·
   exact ms_nil
  intro v31 lo_ hi_ w32 o33 hd iv_ hR
  have e0 : v31 0 = (ptr cb 0) := hd 0 (by decide)
  have e1 : v31 1 = (ptr cb 0) := hd 1 (by decide)
  have e2 : v31 2 = (ptr cb 3) := hd 2 (by decide)
  have e3 : v31 3 = (ptr cb 6) := hd 3 (by decide)
  have e4 : v31 4 = (sli db 0 (D * B * Q) (D * B * Q)) := hd 4 (by decide)
  have e5 : v31 5 = (eN i) := hd 5 (by decide)
  have f_v31_6 : Ps (Or1 cb (Or1 zb (Or1 db (Or1 gb (Old W.heap.size))))) (Seq kB onesW (v31 6)) w32 := hd 6 (by decide)
  clear hd iv_ lo_ hi_
  refine wpL.flat ([(Value.agg #[(eN D), (eN B), (eN Q)]), ub, (ptr gb 0), undef, (Value.pointer none), (eN 0), (ptr cb 0), (eN i), undef, undef, (Value.agg #[(eN D), (eN B), (eN Q)]), (Value.bool true), (Value.bool false), (Value.agg #[(eN D), (eN B), (eN Q)]), (Value.agg #[(eN D), (eN B), (eN Q)]), (Value.agg #[(eN D), (eN B), (eN Q), (sli db 0 (D * B * Q) (D * B * Q))]), (Value.agg #[(eN D), (eN B), (eN Q)]), (Value.agg #[(eN D), (eN B), (eN Q), (sli zb 0 (D * B * Q) (D * B * Q))]), (Value.agg #[(eN D), (eN B), (eN Q), (eN D), (eN B), (eN Q), (sli db 0 (D * B * Q) (D * B * Q)), (eN D), (eN B), (eN Q), (sli zb 0 (D * B * Q) (D * B * Q)), (Value.slice none 0 0), (eN 0), (Value.slice none 0 0), (Value.bool false), (eN 0), (eN 0)]), (ptr cb 0), (ptr cb 0), (ptr cb 0), (ptr cb 3), (ptr cb 6), (sli db 0 (D * B * Q) (D * B * Q)), (eN (D * B * Q)), (eN i), (Value.bool (decide (i < (D * B * Q)))), (eN i), (ptr cb 0), (ptr cb 0), (ptr cb 3), (ptr cb 6), (sli db 0 (D * B * Q) (D * B * Q)), (eN i), (v31 6), (z 36), (z 37)] ++ (us 44)) (by rw [e0, e1, e2, e3, e4, e5] <;> rfl) ?_
  clear e0 e1 e2 e3 e4 e5
  replace hF := hF.step o33 (or1_mono (or1_mono (or1_mono (or1_mono no_any))))
  obtain ⟨xr_a13, xr_a20, xr_a22, xr_a26⟩ := hR
  replace a13 : Arr 23 gb [(eN D), (eN B), (eN Q)] w32 := xr_a13
  replace a20 : Arr 36 db (vd.map eV) w32 := xr_a20
  replace a22 : Arr 37 zb (List.replicate (D * B * Q) (Value.slice none 0 0)) w32 := xr_a22
  replace a26 : Arr 73 cb [(eN D), (eN B), (eN Q), (eN D), (eN B), (eN Q), (sli db 0 (D * B * Q) (D * B * Q)), (eN D), (eN B), (eN Q), (sli zb 0 (D * B * Q) (D * B * Q)), (Value.slice none 0 0), (eN 0), (Value.slice none 0 0), (Value.bool false), (eN 0), (eN 0)] w32 := xr_a26
  clear xr_a13 xr_a20 xr_a22 xr_a26
  replace oW := oW.tail o33 (tl_new g_oW_cb (tl_new g_oW_zb (tl_new g_oW_db (tl_new g_oW_gb tl_no))))
  replace o28 := o28.tail o33 (tl_in in1 (tl_in (in2 in1) (tl_in (in2 (in2 in1)) (tl_in (in2 (in2 (in2 in1))) tl_no))))
  refine wI (d_index1 (n := (D * B * Q)) (i := i) Try.underlying63 s_ti36 rfl (show _ = Value.int _ ((i : Nat) : Int) from rfl) (by omega)) ?_
  refine wO (d_store (b := db) (i := i) (v := (v31 6)) s_ti36 rfl rfl (Seq.one f_v31_6) a20 (by rw [List.length_map, l_db]; omega) (m_put vd i (v31 6) eV)) ?_
  rintro _ w34 ⟨a35, o36⟩
  replace hF := hF.stepb o36 (in2 (in2 in1))
  replace f_v31_6 := f_v31_6.stepb o36 (in2 (in2 in1))
  replace a13 := a13.step o36 (fun e => absurd e n_gb_db)
  replace a22 := a22.step o36 (fun e => absurd e (Ne.symm n_db_zb))
  replace a26 := a26.step o36 (fun e => absurd e (Ne.symm n_db_cb))
  replace oW := oW.tailb o36 g_oW_db
  replace o28 := o28.tail o36 (fun k _ e => by have : k = db := e; rw [this]; exact (in2 (in2 in1)))
  replace l_db : (vd.set i (v31 6) : List Value).length = D * B * Q := (List.length_set ..).trans l_db
  refine wF ([(Value.agg #[(eN D), (eN B), (eN Q)]), ub, (ptr gb 0), undef, (Value.pointer none), (eN 0), (ptr cb 0), (eN i), undef, undef, (Value.agg #[(eN D), (eN B), (eN Q)]), (Value.bool true), (Value.bool false), (Value.agg #[(eN D), (eN B), (eN Q)]), (Value.agg #[(eN D), (eN B), (eN Q)]), (Value.agg #[(eN D), (eN B), (eN Q), (sli db 0 (D * B * Q) (D * B * Q))]), (Value.agg #[(eN D), (eN B), (eN Q)]), (Value.agg #[(eN D), (eN B), (eN Q), (sli zb 0 (D * B * Q) (D * B * Q))]), (Value.agg #[(eN D), (eN B), (eN Q), (eN D), (eN B), (eN Q), (sli db 0 (D * B * Q) (D * B * Q)), (eN D), (eN B), (eN Q), (sli zb 0 (D * B * Q) (D * B * Q)), (Value.slice none 0 0), (eN 0), (Value.slice none 0 0), (Value.bool false), (eN 0), (eN 0)]), (ptr cb 0), (ptr cb 0), (ptr cb 0), (ptr cb 3), (ptr cb 6), (sli db 0 (D * B * Q) (D * B * Q)), (eN (D * B * Q)), (eN i), (Value.bool (decide (i < (D * B * Q)))), (eN i), (ptr cb 0), (ptr cb 0), (ptr cb 3), (ptr cb 6), (sli db 0 (D * B * Q) (D * B * Q)), (eN i), (v31 6), (ptr db i), (z 37)] ++ (us 44)) ?_
  refine wpL.done ?_
  refine inb_n (then_n ?_)
  refine plain ?_
  refine wI (n_add (a := i) (b := 1) rfl rfl (by omega)) ?_
  refine wI (d_move rfl) ?_
  refine wF ([(Value.agg #[(eN D), (eN B), (eN Q)]), ub, (ptr gb 0), undef, (Value.pointer none), (eN 0), (ptr cb 0), (eN i), undef, undef, (Value.agg #[(eN D), (eN B), (eN Q)]), (Value.bool true), (Value.bool false), (Value.agg #[(eN D), (eN B), (eN Q)]), (Value.agg #[(eN D), (eN B), (eN Q)]), (Value.agg #[(eN D), (eN B), (eN Q), (sli db 0 (D * B * Q) (D * B * Q))]), (Value.agg #[(eN D), (eN B), (eN Q)]), (Value.agg #[(eN D), (eN B), (eN Q), (sli zb 0 (D * B * Q) (D * B * Q))]), (Value.agg #[(eN D), (eN B), (eN Q), (eN D), (eN B), (eN Q), (sli db 0 (D * B * Q) (D * B * Q)), (eN D), (eN B), (eN Q), (sli zb 0 (D * B * Q) (D * B * Q)), (Value.slice none 0 0), (eN 0), (Value.slice none 0 0), (Value.bool false), (eN 0), (eN 0)]), (ptr cb 0), (ptr cb 0), (ptr cb 0), (ptr cb 3), (ptr cb 6), (sli db 0 (D * B * Q) (D * B * Q)), (eN (D * B * Q)), (eN (i + 1)), (Value.bool (decide (i < (D * B * Q)))), (eN i), (ptr cb 0), (ptr cb 0), (ptr cb 3), (ptr cb 6), (sli db 0 (D * B * Q) (D * B * Q)), (eN i), (v31 6), (ptr db i), (eN (i + 1))] ++ (us 44)) ?_
  refine wpL.done ?_
  refine then_n ?_
  refine ⟨_, ⟨i + 1, vd.set i (v31 6)⟩, rfl, rfl, ⟨?_, ?_, ?_, ?_, ?_, ?_, ?_, ?_⟩, ?_⟩
  ·
   (try dsimp only)
   all_goals (omega)
  ·
   (try dsimp only)
   all_goals (exact fam_next hF f_v31_6 (by rw [List.length_set] at l_db; omega))
  ·
   exact o28
  ·
   exact a13
  ·
   exact l_db
  ·
   exact a35
  ·
   exact a22
  ·
   exact a26
  ·
   (try dsimp only)
   all_goals (omega)
 refine wpIn_exit ?_
 refine then_x (then_x (inb_e ?_))
 refine then_n ?_
 refine wpIn_seq ?_
 refine wpIn_seq ?_
 obtain rfl : i = D * B * Q := by omega
 refine wp_eq (l' := ([(Value.agg #[(eN D), (eN B), (eN Q)]), ub, (ptr gb 0), undef, (Value.pointer none), (eN 0), (ptr cb 0), (z 7), undef, undef, (Value.agg #[(eN D), (eN B), (eN Q)]), (Value.bool true), (Value.bool false), (Value.agg #[(eN D), (eN B), (eN Q)]), (Value.agg #[(eN D), (eN B), (eN Q)]), (Value.agg #[(eN D), (eN B), (eN Q), (sli db 0 (D * B * Q) (D * B * Q))]), (Value.agg #[(eN D), (eN B), (eN Q)]), (Value.agg #[(eN D), (eN B), (eN Q), (sli zb 0 (D * B * Q) (D * B * Q))]), (Value.agg #[(eN D), (eN B), (eN Q), (eN D), (eN B), (eN Q), (sli db 0 (D * B * Q) (D * B * Q)), (eN D), (eN B), (eN Q), (sli zb 0 (D * B * Q) (D * B * Q)), (Value.slice none 0 0), (eN 0), (Value.slice none 0 0), (Value.bool false), (eN 0), (eN 0)]), (ptr cb 0), (ptr cb 0), (ptr cb 0), (ptr cb 3), (ptr cb 6), (sli db 0 (D * B * Q) (D * B * Q)), (eN (D * B * Q)), (eN (D * B * Q)), (Value.bool (decide ((D * B * Q) < (D * B * Q))))] ++ (zs z 28 10 ++ (us 44)))) rfl ?_
 refine plain ?_
 refine wI (d_fieldAddr (j := 0) Try.underlying23 rfl s_ti3 (by decide) rfl rfl) ?_
 refine wI (d_load (v := (eN D)) ⟨_, Try.underlying3, rfl⟩ rfl a13 rfl) ?_
 refine wI (d_move rfl) ?_
 refine wF ([(Value.agg #[(eN D), (eN B), (eN Q)]), ub, (ptr gb 0), undef, (Value.pointer none), (eN 0), (ptr cb 0), (z 7), undef, undef, (Value.agg #[(eN D), (eN B), (eN Q)]), (Value.bool true), (Value.bool false), (Value.agg #[(eN D), (eN B), (eN Q)]), (Value.agg #[(eN D), (eN B), (eN Q)]), (Value.agg #[(eN D), (eN B), (eN Q), (sli db 0 (D * B * Q) (D * B * Q))]), (Value.agg #[(eN D), (eN B), (eN Q)]), (Value.agg #[(eN D), (eN B), (eN Q), (sli zb 0 (D * B * Q) (D * B * Q))]), (Value.agg #[(eN D), (eN B), (eN Q), (eN D), (eN B), (eN Q), (sli db 0 (D * B * Q) (D * B * Q)), (eN D), (eN B), (eN Q), (sli zb 0 (D * B * Q) (D * B * Q)), (Value.slice none 0 0), (eN 0), (Value.slice none 0 0), (Value.bool false), (eN 0), (eN 0)]), (ptr cb 0), (ptr cb 0), (ptr cb 0), (ptr cb 3), (ptr cb 6), (sli db 0 (D * B * Q) (D * B * Q)), (eN (D * B * Q)), (eN (D * B * Q)), (Value.bool (decide ((D * B * Q) < (D * B * Q))))] ++ (zs z 28 10 ++ [(ptr gb 0), (eN D), (eN 0)] ++ (us 41))) ?_
 refine wpL.done ?_
 refine then_n ?_
 refine wpIn_block ?_
 have a37 : Ow 75 1 none (Value.slice none 0 0) ([] : List Nat).length (([] : List Nat).map (eK B)) w29 := Ow.nil _ _ _
 have nq_bk_gb : ∀ x, (none : Option Nat) = some x → ¬ x = gb := fun x e => by cases e
 have nq_bk_db : ∀ x, (none : Option Nat) = some x → ¬ x = db := fun x e => by cases e
 have nq_bk_zb : ∀ x, (none : Option Nat) = some x → ¬ x = zb := fun x e => by cases e
 have nq_bk_cb : ∀ x, (none : Option Nat) = some x → ¬ x = cb := fun x e => by cases e
 have q_oW_bk : Fr none none W.heap.size := Fr.none
 have q_o28_bk : Fr none none w24.heap.size := Fr.none
 replace hF := hF.qnone
 have h_lt_gb := a13.lt
 have h_lt_db := a20.lt
 have h_lt_zb := a22.lt
 have h_lt_cb := a26.lt
 have h_lts_bk := a37.lts
 refine loop2 (fun (s_ : (Nat) × (List Nat) × (Option Nat) × (Value)) => match s_ with | ⟨j, bk, bo_bk, u_bk⟩ => fun (z : Nat → Value) => (([(Value.agg #[(eN D), (eN B), (eN Q)]), ub, (ptr gb 0), undef, (Value.pointer none), (eN 0), (ptr cb 0), (z 7), undef, undef, (Value.agg #[(eN D), (eN B), (eN Q)]), (Value.bool true), (Value.bool false), (Value.agg #[(eN D), (eN B), (eN Q)]), (Value.agg #[(eN D), (eN B), (eN Q)]), (Value.agg #[(eN D), (eN B), (eN Q), (sli db 0 (D * B * Q) (D * B * Q))]), (Value.agg #[(eN D), (eN B), (eN Q)]), (Value.agg #[(eN D), (eN B), (eN Q), (sli zb 0 (D * B * Q) (D * B * Q))]), (Value.agg #[(eN D), (eN B), (eN Q), (eN D), (eN B), (eN Q), (sli db 0 (D * B * Q) (D * B * Q)), (eN D), (eN B), (eN Q), (sli zb 0 (D * B * Q) (D * B * Q)), (Value.slice none 0 0), (eN 0), (Value.slice none 0 0), (Value.bool false), (eN 0), (eN 0)]), (ptr cb 0), (ptr cb 0), (ptr cb 0), (ptr cb 3), (ptr cb 6), (sli db 0 (D * B * Q) (D * B * Q)), (eN (D * B * Q)), (eN (D * B * Q)), (Value.bool (decide ((D * B * Q) < (D * B * Q))))] ++ (zs z 28 10 ++ [(ptr gb 0), (eN D), (eN j)] ++ (zs z 41 14 ++ (us 27)))) : List Value)) (fun (s_ : (Nat) × (List Nat) × (Option Nat) × (Value)) => match s_ with | ⟨j, bk, bo_bk, u_bk⟩ => fun (w_ : World) => (j ≤ D) ∧ (bk.length = j) ∧ (bk.Nodup) ∧ (∀ x ∈ bk, x ≠ cb ∧ x ≠ db ∧ x ≠ zb ∧ W.heap.size ≤ x ∧ x < w_.heap.size) ∧ (∀ x, bo_bk = some x → x ∉ bk) ∧ (Ps (Orq bo_bk (Or1 cb (Or1 zb (Or1 db (Or1 gb (Old W.heap.size)))))) (fun w => ∀ q, q < j → Arr 77 (bk.getD q 0) (stC B (fun _ => St0)) w) w_) ∧ (Ps (Orq bo_bk (Or1 cb (Or1 zb (Or1 db (Or1 gb (fun k => k ∈ bk ∨ Old W.heap.size k)))))) (Fam kB (D * B * Q) (fun _ => onesW) vd) w_) ∧ Only (Orq none (Or1 cb (Or1 zb (Or1 db (Or1 gb No))))) w29 w_ ∧ Arr 23 gb [(eN D), (eN B), (eN Q)] w_ ∧ Arr 36 db (vd.map eV) w_ ∧ Arr 37 zb (List.replicate (D * B * Q) (Value.slice none 0 0)) w_ ∧ Arr 73 cb [(eN D), (eN B), (eN Q), (eN D), (eN B), (eN Q), (sli db 0 (D * B * Q) (D * B * Q)), (eN D), (eN B), (eN Q), (sli zb 0 (D * B * Q) (D * B * Q)), u_bk, (eN 0), (Value.slice none 0 0), (Value.bool false), (eN 0), (eN 0)] w_ ∧ Ow 75 1 bo_bk u_bk (bk).length ((bk).map (eK B)) w_ ∧ Fr bo_bk none w29.heap.size) (fun (s_ : (Nat) × (List Nat) × (Option Nat) × (Value)) => match s_ with | ⟨j, bk, bo_bk, u_bk⟩ => D - j) ⟨0, [], none, (Value.slice none 0 0)⟩ rfl ?_ ?_
 ·
  refine ⟨?_, ?_, ?_, ?_, ?_, ?_, ?_, ?_, ?_, ?_, ?_, ?_, ?_, ?_⟩
  ·
   exact Nat.zero_le _
  ·
   exact rfl
  ·
   exact List.nodup_nil
  ·
   exact fun x hx => by cases hx
  ·
   exact fun x hx => by cases hx
  ·
   exact fun w' _ q hq => absurd hq (Nat.not_lt_zero q)
  ·
   (try dsimp only)
   all_goals (exact hF.less (by intro k _ h; simp only [Or1, Orq] at h ⊢; grind))
  ·
   exact Only.refl _ _
  ·
   exact a13
  ·
   exact a20
  ·
   exact a22
  ·
   exact a26
  ·
   exact a37
  ·
   exact Fr.same
 rintro ⟨j, bk, bo_bk, u_bk⟩ z w39 ⟨hi2, hl, hn, hb, hbo, hK, hG, o38, a13, a20, a22, a26, a37, qq_bk⟩
 (try dsimp only)
 have tq_oW := oW.size
 replace oW := oW.tail o38 (tl_q q_oW_bk (fun _ e => by cases e) (tl_new g_oW_cb (tl_new g_oW_zb (tl_new g_oW_db (tl_new g_oW_gb tl_no)))))
 replace q_oW_bk := qtr qq_bk q_oW_bk tq_oW
 have tq_o28 := o28.size
 replace o28 := o28.tail o38 (tl_q q_o28_bk (fun _ e => by cases e) (tl_in in1 (tl_in (in2 in1) (tl_in (in2 (in2 in1)) (tl_in (in2 (in2 (in2 in1))) tl_no)))))
 replace q_o28_bk := qtr qq_bk q_o28_bk tq_o28
 replace nq_bk_gb := nqs nq_bk_gb qq_bk h_lt_gb
 replace nq_bk_db := nqs nq_bk_db qq_bk h_lt_db
 replace nq_bk_zb := nqs nq_bk_zb qq_bk h_lt_zb
 replace nq_bk_cb := nqs nq_bk_cb qq_bk h_lt_cb
 have q_o38_bk := qq_bk
 have oH : Only (Orq bo_bk (Or1 cb (Or1 zb (Or1 db (Or1 gb No))))) w39 w39 := Only.refl _ _
 have q_oH_bk : Fr bo_bk bo_bk w39.heap.size := Fr.same
 refine wpIn_seq ?_
 refine plain ?_
 refine wI (n_lss (a := j) (b := D) rfl rfl rfl) ?_
 refine wF ([(Value.agg #[(eN D), (eN B), (eN Q)]), ub, (ptr gb 0), undef, (Value.pointer none), (eN 0), (ptr cb 0), (z 7), undef, undef, (Value.agg #[(eN D), (eN B), (eN Q)]), (Value.bool true), (Value.bool false), (Value.agg #[(eN D), (eN B), (eN Q)]), (Value.agg #[(eN D), (eN B), (eN Q)]), (Value.agg #[(eN D), (eN B), (eN Q), (sli db 0 (D * B * Q) (D * B * Q))]), (Value.agg #[(eN D), (eN B), (eN Q)]), (Value.agg #[(eN D), (eN B), (eN Q), (sli zb 0 (D * B * Q) (D * B * Q))]), (Value.agg #[(eN D), (eN B), (eN Q), (eN D), (eN B), (eN Q), (sli db 0 (D * B * Q) (D * B * Q)), (eN D), (eN B), (eN Q), (sli zb 0 (D * B * Q) (D * B * Q)), (Value.slice none 0 0), (eN 0), (Value.slice none 0 0), (Value.bool false), (eN 0), (eN 0)]), (ptr cb 0), (ptr cb 0), (ptr cb 0), (ptr cb 3), (ptr cb 6), (sli db 0 (D * B * Q) (D * B * Q)), (eN (D * B * Q)), (eN (D * B * Q)), (Value.bool (decide ((D * B * Q) < (D * B * Q))))] ++ (zs z 28 10 ++ [(ptr gb 0), (eN D), (eN j), (Value.bool (decide (j < D)))] ++ (zs z 42 13 ++ (us 27)))) ?_
 refine wpL.done ?_
 refine then_n ?_
 refine wpIn_seq ?_
 refine cond_if rfl (fun c40 => ?_) (fun c40 => ?_)
 ·
  refine wpIn_skip ?_
  refine then_n ?_
  refine wpIn_seq ?_
  refine wpIn_block ?_
  have hX0_ : ∀ k, (Orq bo_bk (Or1 cb (Or1 zb (Or1 db (Or1 gb (Old W.heap.size)))))) k → k < w39.heap.size := (lt_orq a37.lts (lt_or1 a26.lt (lt_or1 a22.lt (lt_or1 a20.lt (lt_or1 a13.lt (fun k t => Nat.lt_of_lt_of_le t oW.size))))))
  have hO0_ : ∀ k, (Orq bo_bk (Or1 cb (Or1 zb (Or1 db (Or1 gb No))))) k → k < w39.heap.size := fun k h => hX0_ k ((orq_mono (or1_mono (or1_mono (or1_mono (or1_mono no_any))))) k h)
  refine drawnF (O := (Orq bo_bk (Or1 cb (Or1 zb (Or1 db (Or1 gb No)))))) (n := 13) [0] [9, 10, 11, 12] (fun i_ => nth [(ptr cb 0)] i_) 9 [0, 0, 2, 6, 14, 0, 32, 96, 224, 510, 1023, 2047, 4095] [(0, 42), (1, 43), (2, 44), (3, 45), (4, 46), (5, 47), (6, 48), (7, 49), (8, 50), (9, 51), (10, 52), (11, 53)] [(0, 42), (1, 43), (2, 44), (3, 45), (4, 46), (5, 47), (6, 48), (7, 49), (8, 50)] [0, 1, 2, 3, 4, 5, 6, 7, 8] [] (fun i_ => ([RF.is (Orq bo_bk (Or1 cb (Or1 zb (Or1 db (Or1 gb No))))) (ptr cb 0), RF.is (Orq bo_bk (Or1 cb (Or1 zb (Or1 db (Or1 gb No))))) (ptr cb 0), RF.is (Orq bo_bk (Or1 cb (Or1 zb (Or1 db (Or1 gb No))))) (ptr cb 0), RF.is (Orq bo_bk (Or1 cb (Or1 zb (Or1 db (Or1 gb No))))) (ptr cb 11), RF.is (Orq bo_bk (Or1 cb (Or1 zb (Or1 db (Or1 gb No))))) u_bk, RF.is (Orq bo_bk (Or1 cb (Or1 zb (Or1 db (Or1 gb No))))) (ptr gb 1), RF.is (Orq bo_bk (Or1 cb (Or1 zb (Or1 db (Or1 gb No))))) (eN B), RF.mk_ (Orq bo_bk (Or1 cb (Or1 zb (Or1 db (Or1 gb No))))) (fun b_ => (sli b_ 0 B B)) 77 (stC B (fun _ => St0)) w39.heap.size hO0_, RF.mkv_ (Orq bo_bk (Or1 cb (Or1 zb (Or1 db (Or1 gb No))))) (fun b_ => (sli b_ 0 1 1)) 75 (fun v41 => [(v41 7)]) w39.heap.size hO0_] : List (RF (Orq bo_bk (Or1 cb (Or1 zb (Or1 db (Or1 gb No))))))).getD i_ (RF.any (Orq bo_bk (Or1 cb (Or1 zb (Or1 db (Or1 gb No))))))) (fun _ w_ => Arr 23 gb [(eN D), (eN B), (eN Q)] w_ ∧ Arr 36 db (vd.map eV) w_ ∧ Arr 37 zb (List.replicate (D * B * Q) (Value.slice none 0 0)) w_ ∧ Arr 73 cb [(eN D), (eN B), (eN Q), (eN D), (eN B), (eN Q), (sli db 0 (D * B * Q) (D * B * Q)), (eN D), (eN B), (eN Q), (sli zb 0 (D * B * Q) (D * B * Q)), u_bk, (eN 0), (Value.slice none 0 0), (Value.bool false), (eN 0), (eN 0)] w_ ∧ Ow 75 1 bo_bk u_bk (bk).length ((bk).map (eK B)) w_) (fun v41 => ([(Value.agg #[(eN D), (eN B), (eN Q)]), ub, (ptr gb 0), undef, (Value.pointer none), (eN 0), (ptr cb 0), (z 7), undef, undef, (Value.agg #[(eN D), (eN B), (eN Q)]), (Value.bool true), (Value.bool false), (Value.agg #[(eN D), (eN B), (eN Q)]), (Value.agg #[(eN D), (eN B), (eN Q)]), (Value.agg #[(eN D), (eN B), (eN Q), (sli db 0 (D * B * Q) (D * B * Q))]), (Value.agg #[(eN D), (eN B), (eN Q)]), (Value.agg #[(eN D), (eN B), (eN Q), (sli zb 0 (D * B * Q) (D * B * Q))]), (Value.agg #[(eN D), (eN B), (eN Q), (eN D), (eN B), (eN Q), (sli db 0 (D * B * Q) (D * B * Q)), (eN D), (eN B), (eN Q), (sli zb 0 (D * B * Q) (D * B * Q)), (Value.slice none 0 0), (eN 0), (Value.slice none 0 0), (Value.bool false), (eN 0), (eN 0)]), (ptr cb 0), (ptr cb 0), (ptr cb 0), (ptr cb 3), (ptr cb 6), (sli db 0 (D * B * Q) (D * B * Q)), (eN (D * B * Q)), (eN (D * B * Q)), (Value.bool (decide ((D * B * Q) < (D * B * Q))))] ++ (zs z 28 10 ++ [(ptr gb 0), (eN D), (eN j), (Value.bool (decide (j < D))), (v41 0), (v41 1), (v41 2), (v41 3), (v41 4), (v41 5), (v41 6), (v41 7), (v41 8), (v41 9), (v41 10), (v41 11), (z 54)] ++ (us 27)))) (fun v41 => ([(Value.agg #[(eN D), (eN B), (eN Q)]), ub, (ptr gb 0), undef, (Value.pointer none), (eN 0), (ptr cb 0), (z 7), undef, undef, (Value.agg #[(eN D), (eN B), (eN Q)]), (Value.bool true), (Value.bool false), (Value.agg #[(eN D), (eN B), (eN Q)]), (Value.agg #[(eN D), (eN B), (eN Q)]), (Value.agg #[(eN D), (eN B), (eN Q), (sli db 0 (D * B * Q) (D * B * Q))]), (Value.agg #[(eN D), (eN B), (eN Q)]), (Value.agg #[(eN D), (eN B), (eN Q), (sli zb 0 (D * B * Q) (D * B * Q))]), (Value.agg #[(eN D), (eN B), (eN Q), (eN D), (eN B), (eN Q), (sli db 0 (D * B * Q) (D * B * Q)), (eN D), (eN B), (eN Q), (sli zb 0 (D * B * Q) (D * B * Q)), (Value.slice none 0 0), (eN 0), (Value.slice none 0 0), (Value.bool false), (eN 0), (eN 0)]), (ptr cb 0), (ptr cb 0), (ptr cb 0), (ptr cb 3), (ptr cb 6), (sli db 0 (D * B * Q) (D * B * Q)), (eN (D * B * Q)), (eN (D * B * Q)), (Value.bool (decide ((D * B * Q) < (D * B * Q))))] ++ (zs z 28 10 ++ [(ptr gb 0), (eN D), (eN j), (Value.bool (decide (j < D))), (v41 0), (v41 1), (v41 2), (v41 3), (v41 4), (v41 5), (v41 6), (v41 7), (v41 8), (z 51), (z 52), (z 53), (z 54)] ++ (us 27)))) s_mx (by kernel_rfl) rfl (by decide) (by rfl) (by kernel_rfl) (by kernel_rfl) (by kernel_rfl) (by kernel_rfl) (fun l2_ w_ hl_ hn_ => fl_cons (fl_move (t := 6) hn_ (by kernel_rfl) (by rfl) (by rfl)) (fl_nil)) (fl_cons (by rfl) (fl_nil)) (by kernel_rfl) (by kernel_rfl) (by rfl) (fun v_ => by kernel_rfl) (fun v_ => by kernel_rfl) (fun _ => fun w_ w2_ h ho => by obtain ⟨r_a13, r_a20, r_a22, r_a26, r_a37⟩ := h; exact ⟨r_a13.step0 ho, r_a20.step0 ho, r_a22.step0 ho, r_a26.step0 ho, r_a37.step0 ho⟩) ⟨a13, a20, a22, a26, a37⟩ ?_ ?_ ?_
  ·
   refine ls_cons ?_ ?_
   ·
    intro v41 lo hi w_ k_ hO hd _ _ hk_ _ hR hold
    obtain ⟨r_a13, r_a20, r_a22, r_a26, r_a37⟩ := hR
    clear hd hold
    refine ⟨_, rfl, gd rfl ?_⟩
    exact Does.is (d_move rfl)
   refine ls_cons ?_ ?_
   ·
    intro v41 lo hi w_ k_ hO hd _ _ hk_ _ hR hold
    obtain ⟨r_a13, r_a20, r_a22, r_a26, r_a37⟩ := hR
    clear hd hold
    refine ⟨_, rfl, gd rfl ?_⟩
    exact Does.is (d_move rfl)
   refine ls_cons ?_ ?_
   ·
    intro v41 lo hi w_ k_ hO hd _ _ hk_ _ hR hold
    obtain ⟨r_a13, r_a20, r_a22, r_a26, r_a37⟩ := hR
    have e1 : v41 1 = (ptr cb 0) := hd 1 (by kernel_rfl)
    clear hd hold
    refine ⟨_, rfl, gd rfl ?_⟩
    exact Does.is (d_nilCheck (b := cb) (o := 0) e1)
   refine ls_cons ?_ ?_
   ·
    intro v41 lo hi w_ k_ hO hd _ _ hk_ _ hR hold
    obtain ⟨r_a13, r_a20, r_a22, r_a26, r_a37⟩ := hR
    have e2 : v41 2 = (ptr cb 0) := hd 2 (by kernel_rfl)
    clear hd hold
    refine ⟨_, rfl, gd rfl ?_⟩
    exact Does.is (d_fieldAddr (j := 11) Try.underlying73 rfl s_ti71 (by decide) e2 rfl)
   refine ls_cons ?_ ?_
   ·
    intro v41 lo hi w_ k_ hO hd _ _ hk_ _ hR hold
    obtain ⟨r_a13, r_a20, r_a22, r_a26, r_a37⟩ := hR
    have e3 : v41 3 = (ptr cb 11) := hd 3 (by kernel_rfl)
    clear hd hold
    refine ⟨_, rfl, gd rfl ?_⟩
    exact Does.is (d_load (v := u_bk) ⟨_, Try.underlying71, rfl⟩ e3 r_a26 rfl)
   refine ls_cons ?_ ?_
   ·
    intro v41 lo hi w_ k_ hO hd _ _ hk_ _ hR hold
    obtain ⟨r_a13, r_a20, r_a22, r_a26, r_a37⟩ := hR
    clear hd hold
    refine ⟨_, rfl, gd rfl ?_⟩
    exact Does.is (d_fieldAddr (j := 1) Try.underlying23 rfl s_ti3 (by decide) rfl rfl)
   refine ls_cons ?_ ?_
   ·
    intro v41 lo hi w_ k_ hO hd _ _ hk_ _ hR hold
    obtain ⟨r_a13, r_a20, r_a22, r_a26, r_a37⟩ := hR
    have e5 : v41 5 = (ptr gb 1) := hd 5 (by kernel_rfl)
    clear hd hold
    refine ⟨_, rfl, gd rfl ?_⟩
    exact Does.is (d_load (v := (eN B)) ⟨_, Try.underlying3, rfl⟩ e5 r_a13 rfl)
   refine ls_cons ?_ ?_
   ·
    intro v41 lo hi w_ k_ hO hd _ _ hk_ _ hR hold
    obtain ⟨r_a13, r_a20, r_a22, r_a26, r_a37⟩ := hR
    have e6 : v41 6 = (eN B) := hd 6 (by kernel_rfl)
    clear hd hold
    refine ⟨_, rfl, gd rfl ?_⟩
    refine Does.mono (d_make (n := B) (cs := (stC B (fun _ => St0))) Try.underlying75 s_ti77 e6 e6 (by omega) (by omega) (made_st B)) (fun u w' h => by obtain ⟨b_, rfl, hb_, hA_, hO_⟩ := h; exact ⟨⟨b_, rfl, hA_, Nat.le_trans hO.size hb_⟩, hO_⟩)
   refine ls_cons ?_ ?_
   ·
    intro v41 lo hi w_ k_ hO hd _ _ hk_ _ hR hold
    obtain ⟨r_a13, r_a20, r_a22, r_a26, r_a37⟩ := hR
    obtain ⟨mb7, me7, ma7, mf7⟩ : ∃ b_, v41 7 = (fun b_ => (sli b_ 0 B B)) b_ ∧ Arr 77 b_ (stC B (fun _ => St0)) w_ ∧ w39.heap.size ≤ b_ := hd 7 (by kernel_rfl)
    clear hd hold
    refine ⟨_, rfl, gd rfl ?_⟩
    refine Does.mono (d_buildL (cs := [(v41 7)]) Try.underlying71 s_ti75 rfl (nb rfl) (parts_cons (vs := [(v41 7)]) (cells_of (v := (v41 7)) rfl (by rw [me7]; rfl)) parts_nil) rfl) (fun u w' h => by obtain ⟨b_, rfl, hb_, hA_, hO_⟩ := h; exact ⟨⟨b_, rfl, hA_, Nat.le_trans hO.size hb_⟩, hO_⟩)
   exact ls_nil
  ·
   exact ms_nil
  intro v41 lo_ hi_ w42 o43 hd hR
  have e0 : v41 0 = (ptr cb 0) := hd 0 (by decide)
  have e1 : v41 1 = (ptr cb 0) := hd 1 (by decide)
  have e2 : v41 2 = (ptr cb 0) := hd 2 (by decide)
  have e3 : v41 3 = (ptr cb 11) := hd 3 (by decide)
  have e4 : v41 4 = u_bk := hd 4 (by decide)
  have e5 : v41 5 = (ptr gb 1) := hd 5 (by decide)
  have e6 : v41 6 = (eN B) := hd 6 (by decide)
  obtain ⟨b49, e7, a44, g45⟩ : ∃ b_, v41 7 = (fun b_ => (sli b_ 0 B B)) b_ ∧ Arr 77 b_ (stC B (fun _ => St0)) w42 ∧ w39.heap.size ≤ b_ := hd 7 (by decide)
  dsimp only at e7
  have n_gb_b49 : gb ≠ b49 := a13.ne g45
  have n_db_b49 : db ≠ b49 := a20.ne g45
  have n_zb_b49 : zb ≠ b49 := a22.ne g45
  have n_cb_b49 : cb ≠ b49 := a26.ne g45
  have nq_bk_b49 : ∀ x, bo_bk = some x → ¬ x = b49 := fun x hx e => by have := a37.lts x hx; omega
  have g_oW_b49 : W.heap.size ≤ b49 := Nat.le_trans oW.size g45
  have g_o28_b49 : w24.heap.size ≤ b49 := Nat.le_trans o28.size g45
  have g_o38_b49 : w29.heap.size ≤ b49 := Nat.le_trans o38.size g45
  have g_oH_b49 : w39.heap.size ≤ b49 := Nat.le_trans oH.size g45
  obtain ⟨b50, e8, a46, g47⟩ : ∃ b_, v41 8 = (fun b_ => (sli b_ 0 1 1)) b_ ∧ Arr 75 b_ [(v41 7)] w42 ∧ w39.heap.size ≤ b_ := hd 8 (by decide)
  dsimp only at e8
  have n_gb_b50 : gb ≠ b50 := a13.ne g47
  have n_db_b50 : db ≠ b50 := a20.ne g47
  have n_zb_b50 : zb ≠ b50 := a22.ne g47
  have n_cb_b50 : cb ≠ b50 := a26.ne g47
  have nq_bk_b50 : ∀ x, bo_bk = some x → ¬ x = b50 := fun x hx e => by have := a37.lts x hx; omega
  have g_oW_b50 : W.heap.size ≤ b50 := Nat.le_trans oW.size g47
  have g_o28_b50 : w24.heap.size ≤ b50 := Nat.le_trans o28.size g47
  have g_o38_b50 : w29.heap.size ≤ b50 := Nat.le_trans o38.size g47
  have g_oH_b50 : w39.heap.size ≤ b50 := Nat.le_trans oH.size g47
  have n_b49_b50 : b49 ≠ b50 := arr_ne a44 a46 (by decide)
  rw [e7] at a46
  replace a46 : Arr 75 b50 (([b49] : List Nat).map (eK B)) w42 := a46
  clear hd lo_ hi_
  refine wS.flat ([(Value.agg #[(eN D), (eN B), (eN Q)]), ub, (ptr gb 0), undef, (Value.pointer none), (eN 0), (ptr cb 0), (z 7), undef, undef, (Value.agg #[(eN D), (eN B), (eN Q)]), (Value.bool true), (Value.bool false), (Value.agg #[(eN D), (eN B), (eN Q)]), (Value.agg #[(eN D), (eN B), (eN Q)]), (Value.agg #[(eN D), (eN B), (eN Q), (sli db 0 (D * B * Q) (D * B * Q))]), (Value.agg #[(eN D), (eN B), (eN Q)]), (Value.agg #[(eN D), (eN B), (eN Q), (sli zb 0 (D * B * Q) (D * B * Q))]), (Value.agg #[(eN D), (eN B), (eN Q), (eN D), (eN B), (eN Q), (sli db 0 (D * B * Q) (D * B * Q)), (eN D), (eN B), (eN Q), (sli zb 0 (D * B * Q) (D * B * Q)), (Value.slice none 0 0), (eN 0), (Value.slice none 0 0), (Value.bool false), (eN 0), (eN 0)]), (ptr cb 0), (ptr cb 0), (ptr cb 0), (ptr cb 3), (ptr cb 6), (sli db 0 (D * B * Q) (D * B * Q)), (eN (D * B * Q)), (eN (D * B * Q)), (Value.bool (decide ((D * B * Q) < (D * B * Q))))] ++ (zs z 28 10 ++ [(ptr gb 0), (eN D), (eN j), (Value.bool (decide (j < D))), (ptr cb 0), (ptr cb 0), (ptr cb 0), (ptr cb 11), u_bk, (ptr gb 1), (eN B), (sli b49 0 B B), (sli b50 0 1 1), (z 51), (z 52), (z 53), (z 54)] ++ (us 27))) (by rw [e0, e1, e2, e3, e4, e5, e6, e7, e8] <;> rfl) ?_
  clear e0 e1 e2 e3 e4 e5 e6 e7 e8
  replace hG := ((hG.less (Y := (Or1 b49 (Orq bo_bk (Or1 cb (Or1 zb (Or1 db (Or1 gb (fun k => k ∈ bk ∨ Old W.heap.size k)))))))) (xx_new g45 xx_id)).less (Y := (Or1 b50 (Or1 b49 (Orq bo_bk (Or1 cb (Or1 zb (Or1 db (Or1 gb (fun k => k ∈ bk ∨ Old W.heap.size k))))))))) (xx_new g47 xx_id)).step o43 (or1_skip (or1_skip (orq_mono (or1_mono (or1_mono (or1_mono (or1_mono no_any)))))))
  replace hK := ((hK.less (Y := (Or1 b49 (Orq bo_bk (Or1 cb (Or1 zb (Or1 db (Or1 gb (Old W.heap.size)))))))) (xx_new g45 xx_id)).less (Y := (Or1 b50 (Or1 b49 (Orq bo_bk (Or1 cb (Or1 zb (Or1 db (Or1 gb (Old W.heap.size))))))))) (xx_new g47 xx_id)).step o43 (or1_skip (or1_skip (orq_mono (or1_mono (or1_mono (or1_mono (or1_mono no_any)))))))
  obtain ⟨xr_a13, xr_a20, xr_a22, xr_a26, xr_a37⟩ := hR
  replace a13 : Arr 23 gb [(eN D), (eN B), (eN Q)] w42 := xr_a13
  replace a20 : Arr 36 db (vd.map eV) w42 := xr_a20
  replace a22 : Arr 37 zb (List.replicate (D * B * Q) (Value.slice none 0 0)) w42 := xr_a22
  replace a26 : Arr 73 cb [(eN D), (eN B), (eN Q), (eN D), (eN B), (eN Q), (sli db 0 (D * B * Q) (D * B * Q)), (eN D), (eN B), (eN Q), (sli zb 0 (D * B * Q) (D * B * Q)), u_bk, (eN 0), (Value.slice none 0 0), (Value.bool false), (eN 0), (eN 0)] w42 := xr_a26
  replace a37 : Ow 75 1 bo_bk u_bk (bk).length ((bk).map (eK B)) w42 := xr_a37
  clear xr_a13 xr_a20 xr_a22 xr_a26 xr_a37
  replace oW := oW.tail o43 (tl_q q_oW_bk (fun _ e => by cases e) (tl_new g_oW_cb (tl_new g_oW_zb (tl_new g_oW_db (tl_new g_oW_gb tl_no)))))
  replace o28 := o28.tail o43 (tl_q q_o28_bk (fun _ e => by cases e) (tl_in in1 (tl_in (in2 in1) (tl_in (in2 (in2 in1)) (tl_in (in2 (in2 (in2 in1))) tl_no)))))
  replace o38 := o38.tail o43 (tl_q q_o38_bk (fun k e => (.inl e)) (tl_in (inq in1) (tl_in (inq (in2 in1)) (tl_in (inq (in2 (in2 in1))) (tl_in (inq (in2 (in2 (in2 in1)))) tl_no)))))
  replace oH := oH.tail o43 (tl_q q_oH_bk (fun k e => (.inl e)) (tl_in (inq in1) (tl_in (inq (in2 in1)) (tl_in (inq (in2 (in2 in1))) (tl_in (inq (in2 (in2 (in2 in1)))) tl_no)))))
  have l_b50 : (([b49] : List Nat) : List Nat).length = 1 := by simp
  refine wS.op rfl rfl (d_append Try.underlying71 Try.underlying71 s_ti75 rfl rfl rfl a37 (SrcV.of_seq (arr_seq a46 l_b50 (Nat.le_refl _)) (fun _ => rfl)) (by simp; omega) (by simp; omega) rfl) ?_
  rintro u48 w49 ⟨bo50, a51, o52, q53⟩
  replace a51 : Ow 75 1 bo50 u48 (bk ++ ([b49] : List Nat)).length ((bk ++ ([b49] : List Nat)).map (eK B)) w49 := by rw [List.length_append, List.map_append]; exact a51
  replace hG := hG.gr o52 (fun k e => (.inr (.inr (.inl e)))) (xx_or1 (xx_or1 (xx_re (Fr.of_or q53) (xx_or1 (xx_or1 (xx_or1 (xx_or1 xx_id)))))))
  replace hK := hK.gr o52 (fun k e => (.inr (.inr (.inl e)))) (xx_or1 (xx_or1 (xx_re (Fr.of_or q53) (xx_or1 (xx_or1 (xx_or1 (xx_or1 xx_id)))))))
  have nq2 := nqs nq_bk_gb (Fr.of_or q53) a13.lt
  replace a13 := a13.step o52 (fun e => nq_bk_gb _ e rfl)
  replace nq_bk_gb := nq2
  clear nq2
  have nq2 := nqs nq_bk_db (Fr.of_or q53) a20.lt
  replace a20 := a20.step o52 (fun e => nq_bk_db _ e rfl)
  replace nq_bk_db := nq2
  clear nq2
  have nq2 := nqs nq_bk_zb (Fr.of_or q53) a22.lt
  replace a22 := a22.step o52 (fun e => nq_bk_zb _ e rfl)
  replace nq_bk_zb := nq2
  clear nq2
  have nq2 := nqs nq_bk_cb (Fr.of_or q53) a26.lt
  replace a26 := a26.step o52 (fun e => nq_bk_cb _ e rfl)
  replace nq_bk_cb := nq2
  clear nq2
  have nq2 := nqs nq_bk_b49 (Fr.of_or q53) a44.lt
  replace a44 := a44.step o52 (fun e => nq_bk_b49 _ e rfl)
  replace nq_bk_b49 := nq2
  clear nq2
  have nq2 := nqs nq_bk_b50 (Fr.of_or q53) a46.lt
  replace a46 := a46.step o52 (fun e => nq_bk_b50 _ e rfl)
  replace nq_bk_b50 := nq2
  clear nq2
  have tq := oW.size
  replace oW := oW.tailr o52 q_oW_bk (fun _ e => by cases e)
  replace q_oW_bk := qtr (Fr.of_or q53) q_oW_bk tq
  clear tq
  have tq := o28.size
  replace o28 := o28.tailr o52 q_o28_bk (fun _ e => by cases e)
  replace q_o28_bk := qtr (Fr.of_or q53) q_o28_bk tq
  clear tq
  have tq := o38.size
  replace o38 := o38.tailr o52 q_o38_bk (fun k e => (.inl e))
  replace q_o38_bk := qtr (Fr.of_or q53) q_o38_bk tq
  clear tq
  have tq := oH.size
  replace oH := oH.tailr o52 q_oH_bk (fun k e => (.inl e))
  replace q_oH_bk := qtr (Fr.of_or q53) q_oH_bk tq
  clear tq
  refine wS.is rfl rfl (d_nilCheck (b := cb) (o := 0) rfl) ?_
  refine wS.is rfl rfl (d_fieldAddr (j := 11) Try.underlying73 rfl s_ti71 (by decide) rfl rfl) ?_
  refine wS.flat ([(Value.agg #[(eN D), (eN B), (eN Q)]), ub, (ptr gb 0), undef, (Value.pointer none), (eN 0), (ptr cb 0), (z 7), undef, undef, (Value.agg #[(eN D), (eN B), (eN Q)]), (Value.bool true), (Value.bool false), (Value.agg #[(eN D), (eN B), (eN Q)]), (Value.agg #[(eN D), (eN B), (eN Q)]), (Value.agg #[(eN D), (eN B), (eN Q), (sli db 0 (D * B * Q) (D * B * Q))]), (Value.agg #[(eN D), (eN B), (eN Q)]), (Value.agg #[(eN D), (eN B), (eN Q), (sli zb 0 (D * B * Q) (D * B * Q))]), (Value.agg #[(eN D), (eN B), (eN Q), (eN D), (eN B), (eN Q), (sli db 0 (D * B * Q) (D * B * Q)), (eN D), (eN B), (eN Q), (sli zb 0 (D * B * Q) (D * B * Q)), (Value.slice none 0 0), (eN 0), (Value.slice none 0 0), (Value.bool false), (eN 0), (eN 0)]), (ptr cb 0), (ptr cb 0), (ptr cb 0), (ptr cb 3), (ptr cb 6), (sli db 0 (D * B * Q) (D * B * Q)), (eN (D * B * Q)), (eN (D * B * Q)), (Value.bool (decide ((D * B * Q) < (D * B * Q))))] ++ (zs z 28 10 ++ [(ptr gb 0), (eN D), (eN j), (Value.bool (decide (j < D))), (ptr cb 0), (ptr cb 0), (ptr cb 0), (ptr cb 11), u_bk, (ptr gb 1), (eN B), (sli b49 0 B B), (sli b50 0 1 1), u48, (ptr cb 0), (ptr cb 11), (z 54)] ++ (us 27))) (by kernel_rfl) ?_
  refine wS.op rfl rfl (d_store s_ti71 rfl rfl (Ow.one a51) a26 (nb rfl) rfl) ?_
  rintro _ w54 ⟨a55, o56⟩
  replace hG := hG.stepb o56 (in2 (in2 (inq in1)))
  replace hK := hK.stepb o56 (in2 (in2 (inq in1)))
  replace a13 := a13.step o56 (fun e => absurd e n_gb_cb)
  replace a20 := a20.step o56 (fun e => absurd e n_db_cb)
  replace a22 := a22.step o56 (fun e => absurd e n_zb_cb)
  replace a44 := a44.step o56 (fun e => absurd e (Ne.symm n_cb_b49))
  replace a46 := a46.step o56 (fun e => absurd e (Ne.symm n_cb_b50))
  replace a51 := a51.step o56 (fun x hx e => nq_bk_cb x hx e)
  replace oW := oW.tailb o56 g_oW_cb
  replace o28 := o28.tail o56 (fun k _ e => by have : k = cb := e; rw [this]; exact in1)
  replace o38 := o38.tail o56 (fun k _ e => by have : k = cb := e; rw [this]; exact (inq in1))
  replace oH := oH.tail o56 (fun k _ e => by have : k = cb := e; rw [this]; exact (inq in1))
  refine wS.flat ([(Value.agg #[(eN D), (eN B), (eN Q)]), ub, (ptr gb 0), undef, (Value.pointer none), (eN 0), (ptr cb 0), (z 7), undef, undef, (Value.agg #[(eN D), (eN B), (eN Q)]), (Value.bool true), (Value.bool false), (Value.agg #[(eN D), (eN B), (eN Q)]), (Value.agg #[(eN D), (eN B), (eN Q)]), (Value.agg #[(eN D), (eN B), (eN Q), (sli db 0 (D * B * Q) (D * B * Q))]), (Value.agg #[(eN D), (eN B), (eN Q)]), (Value.agg #[(eN D), (eN B), (eN Q), (sli zb 0 (D * B * Q) (D * B * Q))]), (Value.agg #[(eN D), (eN B), (eN Q), (eN D), (eN B), (eN Q), (sli db 0 (D * B * Q) (D * B * Q)), (eN D), (eN B), (eN Q), (sli zb 0 (D * B * Q) (D * B * Q)), (Value.slice none 0 0), (eN 0), (Value.slice none 0 0), (Value.bool false), (eN 0), (eN 0)]), (ptr cb 0), (ptr cb 0), (ptr cb 0), (ptr cb 3), (ptr cb 6), (sli db 0 (D * B * Q) (D * B * Q)), (eN (D * B * Q)), (eN (D * B * Q)), (Value.bool (decide ((D * B * Q) < (D * B * Q))))] ++ (zs z 28 10 ++ [(ptr gb 0), (eN D), (eN j), (Value.bool (decide (j < D))), (ptr cb 0), (ptr cb 0), (ptr cb 0), (ptr cb 11), u_bk, (ptr gb 1), (eN B), (sli b49 0 B B), (sli b50 0 1 1), u48, (ptr cb 0), (ptr cb 11), (z 54)] ++ (us 27))) (by kernel_rfl) ?_
  refine wS.done ?_
  refine inb_n (then_n ?_)
  refine plain ?_
  refine wI (n_add (a := j) (b := 1) rfl rfl (by omega)) ?_
  refine wI (d_move rfl) ?_
  refine wF ([(Value.agg #[(eN D), (eN B), (eN Q)]), ub, (ptr gb 0), undef, (Value.pointer none), (eN 0), (ptr cb 0), (z 7), undef, undef, (Value.agg #[(eN D), (eN B), (eN Q)]), (Value.bool true), (Value.bool false), (Value.agg #[(eN D), (eN B), (eN Q)]), (Value.agg #[(eN D), (eN B), (eN Q)]), (Value.agg #[(eN D), (eN B), (eN Q), (sli db 0 (D * B * Q) (D * B * Q))]), (Value.agg #[(eN D), (eN B), (eN Q)]), (Value.agg #[(eN D), (eN B), (eN Q), (sli zb 0 (D * B * Q) (D * B * Q))]), (Value.agg #[(eN D), (eN B), (eN Q), (eN D), (eN B), (eN Q), (sli db 0 (D * B * Q) (D * B * Q)), (eN D), (eN B), (eN Q), (sli zb 0 (D * B * Q) (D * B * Q)), (Value.slice none 0 0), (eN 0), (Value.slice none 0 0), (Value.bool false), (eN 0), (eN 0)]), (ptr cb 0), (ptr cb 0), (ptr cb 0), (ptr cb 3), (ptr cb 6), (sli db 0 (D * B * Q) (D * B * Q)), (eN (D * B * Q)), (eN (D * B * Q)), (Value.bool (decide ((D * B * Q) < (D * B * Q))))] ++ (zs z 28 10 ++ [(ptr gb 0), (eN D), (eN (j + 1)), (Value.bool (decide (j < D))), (ptr cb 0), (ptr cb 0), (ptr cb 0), (ptr cb 11), u_bk, (ptr gb 1), (eN B), (sli b49 0 B B), (sli b50 0 1 1), u48, (ptr cb 0), (ptr cb 11), (eN (j + 1))] ++ (us 27))) ?_
  refine wpL.done ?_
  refine then_n ?_
  have szH := oH.size
  have gH := g_oH_b49
  refine ⟨_, ⟨j + 1, bk ++ [b49], bo50, u48⟩, rfl, rfl, ⟨?_, ?_, ?_, ?_, ?_, ?_, ?_, ?_, ?_, ?_, ?_, ?_, ?_, ?_⟩, ?_⟩
  ·
   (try dsimp only)
   all_goals (omega)
  ·
   (try dsimp only)
   all_goals (rw [List.length_append, hl, List.length_singleton])
  ·
   (try dsimp only)
   all_goals (rw [List.nodup_append]; exact ⟨hn, List.nodup_cons.2 ⟨List.not_mem_nil, List.nodup_nil⟩, fun x hx y hy => by rw [List.mem_singleton.1 hy]; have := (hb x hx).2.2.2.2; omega⟩)
  ·
   (try dsimp only)
   all_goals (intro x hx; rcases List.mem_append.1 hx with hx | hx; (obtain ⟨h1, h2, h3, h4, h5⟩ := hb x hx; exact ⟨h1, h2, h3, h4, by omega⟩); (rw [List.mem_singleton.1 hx]; exact ⟨Ne.symm n_cb_b49, Ne.symm n_db_b49, Ne.symm n_zb_b49, g_oW_b49, a44.lt⟩))
  ·
   (try dsimp only)
   all_goals (intro x hx hm; rcases List.mem_append.1 hm with hm | hm; (rcases q_oH_bk x hx with h | h; (exact hbo x h hm); (have := (hb x hm).2.2.2.2; omega)); (exact nq_bk_b49 x hx (List.mem_singleton.1 hm)))
  ·
   exact kst_next (hK.less (xx_skip (xx_skip (xx_orq (xx_or1 (xx_or1 (xx_or1 (xx_or1 xx_id)))))))) ((a44.ps fun _ h => h).less (nx_orq nq_bk_b49 (nx_or1 n_cb_b49 (nx_or1 n_zb_b49 (nx_or1 n_db_b49 (nx_or1 n_gb_b49 (old_ne g_oW_b49))))))) hl
  ·
   (try dsimp only)
   all_goals (exact hG.less (by intro k _ h; simp only [Or1, Orq, List.mem_append, List.mem_singleton] at h ⊢; grind))
  ·
   exact o38
  ·
   exact a13
  ·
   exact a20
  ·
   exact a22
  ·
   exact a55
  ·
   exact a51
  ·
   exact q_o38_bk
  ·
   (try dsimp only)
   all_goals (omega)
 refine wpIn_exit ?_
 refine then_x (then_x (inb_e ?_))
 refine then_n ?_
 refine wpIn_seq ?_
 refine wpIn_seq ?_
 have hjD : j = D := by omega
 rw [hjD] at hK hl
 obtain ⟨Lq, eL, hN, hfr⟩ : ∃ Lq : NL, cb = Lq.bN ∧ Nd Lq (NS.new D B Q (fun _ _ => false)) (Old W.heap.size) w39 ∧ ∀ k, Lq.S k → W.heap.size ≤ k := ⟨⟨73, 36, 37, 77, cb, db, zb, bo_bk, u_bk, bk⟩, rfl, nd_new hD hB hQ a26 a20 a22 a37 hK (hG.less (by intro k _ h; simp only [Or1, Orq] at h ⊢; grind)) l_db hl oW (Ne.symm n_db_cb) (Ne.symm n_zb_cb) n_db_zb hn (fun x hx => by obtain ⟨h1, h2, h3, h4, h5⟩ := hb x hx; have := oH.size; exact ⟨h1, h2, h3, h4, by omega⟩) (fun x hx => ⟨nq_bk_cb x hx, nq_bk_db x hx, nq_bk_zb x hx, hbo x hx, (q_oW_bk x hx).elim (fun e => by cases e) id, a37.lts x hx⟩) g_oW_cb g_oW_db g_oW_zb⟩
 have h2 : Ps (Ors Lq.S No) (Seq (kA 2 eP) lb ub) w39 := h2W.re oW (fun _ t => t.elim) (xx_news hfr xx_id)
 have g_oW_Lq := hfr
 refine wp_eq (l' := ([(Value.agg #[(eN D), (eN B), (eN Q)]), ub, (ptr gb 0), undef, (Value.pointer none), (eN 0), (ptr Lq.bN 0), (z 7), undef, undef, (Value.agg #[(eN D), (eN B), (eN Q)]), (Value.bool true), (Value.bool false), (Value.agg #[(eN D), (eN B), (eN Q)]), (Value.agg #[(eN D), (eN B), (eN Q)]), (Value.agg #[(eN D), (eN B), (eN Q), (sli db 0 (D * B * Q) (D * B * Q))]), (Value.agg #[(eN D), (eN B), (eN Q)]), (Value.agg #[(eN D), (eN B), (eN Q), (sli zb 0 (D * B * Q) (D * B * Q))]), (Value.agg #[(eN D), (eN B), (eN Q), (eN D), (eN B), (eN Q), (sli db 0 (D * B * Q) (D * B * Q)), (eN D), (eN B), (eN Q), (sli zb 0 (D * B * Q) (D * B * Q)), (Value.slice none 0 0), (eN 0), (Value.slice none 0 0), (Value.bool false), (eN 0), (eN 0)]), (ptr cb 0), (ptr cb 0), (ptr cb 0), (ptr cb 3), (ptr cb 6), (sli db 0 (D * B * Q) (D * B * Q)), (eN (D * B * Q)), (eN (D * B * Q)), (Value.bool (decide ((D * B * Q) < (D * B * Q))))] ++ (zs z 28 10 ++ [(ptr gb 0), (eN D), (eN j), (Value.bool (decide (j < D)))] ++ (zs z 42 13 ++ (us 27))))) (show (([(Value.agg #[(eN D), (eN B), (eN Q)]), ub, (ptr gb 0), undef, (Value.pointer none), (eN 0), (ptr cb 0), (z 7), undef, undef, (Value.agg #[(eN D), (eN B), (eN Q)]), (Value.bool true), (Value.bool false), (Value.agg #[(eN D), (eN B), (eN Q)]), (Value.agg #[(eN D), (eN B), (eN Q)]), (Value.agg #[(eN D), (eN B), (eN Q), (sli db 0 (D * B * Q) (D * B * Q))]), (Value.agg #[(eN D), (eN B), (eN Q)]), (Value.agg #[(eN D), (eN B), (eN Q), (sli zb 0 (D * B * Q) (D * B * Q))]), (Value.agg #[(eN D), (eN B), (eN Q), (eN D), (eN B), (eN Q), (sli db 0 (D * B * Q) (D * B * Q)), (eN D), (eN B), (eN Q), (sli zb 0 (D * B * Q) (D * B * Q)), (Value.slice none 0 0), (eN 0), (Value.slice none 0 0), (Value.bool false), (eN 0), (eN 0)]), (ptr cb 0), (ptr cb 0), (ptr cb 0), (ptr cb 3), (ptr cb 6), (sli db 0 (D * B * Q) (D * B * Q)), (eN (D * B * Q)), (eN (D * B * Q)), (Value.bool (decide ((D * B * Q) < (D * B * Q))))] ++ (zs z 28 10 ++ [(ptr gb 0), (eN D), (eN j), (Value.bool (decide (j < D)))] ++ (zs z 42 13 ++ (us 27)))) : List Value) = ([(Value.agg #[(eN D), (eN B), (eN Q)]), ub, (ptr gb 0), undef, (Value.pointer none), (eN 0), (ptr Lq.bN 0), (z 7), undef, undef, (Value.agg #[(eN D), (eN B), (eN Q)]), (Value.bool true), (Value.bool false), (Value.agg #[(eN D), (eN B), (eN Q)]), (Value.agg #[(eN D), (eN B), (eN Q)]), (Value.agg #[(eN D), (eN B), (eN Q), (sli db 0 (D * B * Q) (D * B * Q))]), (Value.agg #[(eN D), (eN B), (eN Q)]), (Value.agg #[(eN D), (eN B), (eN Q), (sli zb 0 (D * B * Q) (D * B * Q))]), (Value.agg #[(eN D), (eN B), (eN Q), (eN D), (eN B), (eN Q), (sli db 0 (D * B * Q) (D * B * Q)), (eN D), (eN B), (eN Q), (sli zb 0 (D * B * Q) (D * B * Q)), (Value.slice none 0 0), (eN 0), (Value.slice none 0 0), (Value.bool false), (eN 0), (eN 0)]), (ptr cb 0), (ptr cb 0), (ptr cb 0), (ptr cb 3), (ptr cb 6), (sli db 0 (D * B * Q) (D * B * Q)), (eN (D * B * Q)), (eN (D * B * Q)), (Value.bool (decide ((D * B * Q) < (D * B * Q))))] ++ (zs z 28 10 ++ [(ptr gb 0), (eN D), (eN j), (Value.bool (decide (j < D)))] ++ (zs z 42 13 ++ (us 27)))) from reslot ([(Value.agg #[(eN D), (eN B), (eN Q)]), ub, (ptr gb 0), undef, (Value.pointer none), (eN 0), (ptr cb 0), (z 7), undef, undef, (Value.agg #[(eN D), (eN B), (eN Q)]), (Value.bool true), (Value.bool false), (Value.agg #[(eN D), (eN B), (eN Q)]), (Value.agg #[(eN D), (eN B), (eN Q)]), (Value.agg #[(eN D), (eN B), (eN Q), (sli db 0 (D * B * Q) (D * B * Q))]), (Value.agg #[(eN D), (eN B), (eN Q)]), (Value.agg #[(eN D), (eN B), (eN Q), (sli zb 0 (D * B * Q) (D * B * Q))]), (Value.agg #[(eN D), (eN B), (eN Q), (eN D), (eN B), (eN Q), (sli db 0 (D * B * Q) (D * B * Q)), (eN D), (eN B), (eN Q), (sli zb 0 (D * B * Q) (D * B * Q)), (Value.slice none 0 0), (eN 0), (Value.slice none 0 0), (Value.bool false), (eN 0), (eN 0)]), (ptr cb 0), (ptr cb 0), (ptr cb 0), (ptr cb 3), (ptr cb 6), (sli db 0 (D * B * Q) (D * B * Q)), (eN (D * B * Q)), (eN (D * B * Q)), (Value.bool (decide ((D * B * Q) < (D * B * Q))))] ++ (zs z 28 10 ++ [(ptr gb 0), (eN D), (eN j), (Value.bool (decide (j < D)))] ++ (zs z 42 13 ++ (us 27)))) 6 (congrArg (fun x_ => ptr x_ 0) eL)) ?_
 refine plain ?_
 refine wI (d_move rfl) ?_
 refine wI (d_lenS rfl Try.underlying24 rfl h2) ?_
 refine wI (d_move rfl) ?_
 refine wF ([(Value.agg #[(eN D), (eN B), (eN Q)]), ub, (ptr gb 0), undef, (Value.pointer none), (eN 0), (ptr Lq.bN 0), (z 7), undef, undef, (Value.agg #[(eN D), (eN B), (eN Q)]), (Value.bool true), (Value.bool false), (Value.agg #[(eN D), (eN B), (eN Q)]), (Value.agg #[(eN D), (eN B), (eN Q)]), (Value.agg #[(eN D), (eN B), (eN Q), (sli db 0 (D * B * Q) (D * B * Q))]), (Value.agg #[(eN D), (eN B), (eN Q)]), (Value.agg #[(eN D), (eN B), (eN Q), (sli zb 0 (D * B * Q) (D * B * Q))]), (Value.agg #[(eN D), (eN B), (eN Q), (eN D), (eN B), (eN Q), (sli db 0 (D * B * Q) (D * B * Q)), (eN D), (eN B), (eN Q), (sli zb 0 (D * B * Q) (D * B * Q)), (Value.slice none 0 0), (eN 0), (Value.slice none 0 0), (Value.bool false), (eN 0), (eN 0)]), (ptr cb 0), (ptr cb 0), (ptr cb 0), (ptr cb 3), (ptr cb 6), (sli db 0 (D * B * Q) (D * B * Q)), (eN (D * B * Q)), (eN (D * B * Q)), (Value.bool (decide ((D * B * Q) < (D * B * Q))))] ++ (zs z 28 10 ++ [(ptr gb 0), (eN D), (eN j), (Value.bool (decide (j < D)))] ++ (zs z 42 13 ++ [ub, (eN lb.length), (eN 0)] ++ (us 24)))) ?_
 refine wpL.done ?_
 refine then_n ?_
 refine wpIn_block ?_
 refine loop2 (fun (s_ : (Nat) × (NS)) => match s_ with | ⟨i4, s4⟩ => fun (z : Nat → Value) => (([(Value.agg #[(eN D), (eN B), (eN Q)]), ub, (ptr gb 0), undef, (z 4), (z 5), (ptr Lq.bN 0), (z 7), undef, (z 9), (Value.agg #[(eN D), (eN B), (eN Q)]), (Value.bool true), (Value.bool false), (Value.agg #[(eN D), (eN B), (eN Q)]), (Value.agg #[(eN D), (eN B), (eN Q)]), (Value.agg #[(eN D), (eN B), (eN Q), (sli db 0 (D * B * Q) (D * B * Q))]), (Value.agg #[(eN D), (eN B), (eN Q)]), (Value.agg #[(eN D), (eN B), (eN Q), (sli zb 0 (D * B * Q) (D * B * Q))]), (Value.agg #[(eN D), (eN B), (eN Q), (eN D), (eN B), (eN Q), (sli db 0 (D * B * Q) (D * B * Q)), (eN D), (eN B), (eN Q), (sli zb 0 (D * B * Q) (D * B * Q)), (Value.slice none 0 0), (eN 0), (Value.slice none 0 0), (Value.bool false), (eN 0), (eN 0)]), (ptr cb 0), (ptr cb 0), (ptr cb 0), (ptr cb 3), (ptr cb 6), (sli db 0 (D * B * Q) (D * B * Q)), (eN (D * B * Q)), (eN (D * B * Q)), (Value.bool (decide ((D * B * Q) < (D * B * Q))))] ++ (zs z 28 10 ++ [(ptr gb 0), (eN D), (eN j), (Value.bool (decide (j < D)))] ++ (zs z 42 13 ++ [ub, (eN lb.length), (eN i4)] ++ (zs z 58 23 ++ [undef])))) : List Value)) (fun (s_ : (Nat) × (NS)) => match s_ with | ⟨i4, s4⟩ => fun (w_ : World) => (i4 ≤ lb.length) ∧ (NewI s4 D B Q (lb.take i4)) ∧ Only (Ors Lq.S No) w39 w_ ∧ Nd Lq s4 (Old W.heap.size) w_) (fun (s_ : (Nat) × (NS)) => match s_ with | ⟨i4, s4⟩ => lb.length - i4) ⟨0, (NS.new D B Q (fun _ _ => false))⟩ rfl ?_ ?_
 ·
  refine ⟨?_, ?_, ?_, ?_⟩
  ·
   exact Nat.zero_le _
  ·
   exact newI_nil D B Q
  ·
   exact Only.refl _ _
  ·
   exact hN
 rintro ⟨i4, s4⟩ z w58 ⟨hi4, hS, o57, hN⟩
 (try dsimp only)
 replace h2 := h2.step o57 (ors_mono no_any)
 replace oW := oW.tail o57 (tl_snew g_oW_Lq tl_no)
 refine wpIn_seq ?_
 refine plain ?_
 refine wI (n_lss (a := i4) (b := lb.length) rfl rfl rfl) ?_
 refine wF ([(Value.agg #[(eN D), (eN B), (eN Q)]), ub, (ptr gb 0), undef, (z 4), (z 5), (ptr Lq.bN 0), (z 7), undef, (z 9), (Value.agg #[(eN D), (eN B), (eN Q)]), (Value.bool true), (Value.bool false), (Value.agg #[(eN D), (eN B), (eN Q)]), (Value.agg #[(eN D), (eN B), (eN Q)]), (Value.agg #[(eN D), (eN B), (eN Q), (sli db 0 (D * B * Q) (D * B * Q))]), (Value.agg #[(eN D), (eN B), (eN Q)]), (Value.agg #[(eN D), (eN B), (eN Q), (sli zb 0 (D * B * Q) (D * B * Q))]), (Value.agg #[(eN D), (eN B), (eN Q), (eN D), (eN B), (eN Q), (sli db 0 (D * B * Q) (D * B * Q)), (eN D), (eN B), (eN Q), (sli zb 0 (D * B * Q) (D * B * Q)), (Value.slice none 0 0), (eN 0), (Value.slice none 0 0), (Value.bool false), (eN 0), (eN 0)]), (ptr cb 0), (ptr cb 0), (ptr cb 0), (ptr cb 3), (ptr cb 6), (sli db 0 (D * B * Q) (D * B * Q)), (eN (D * B * Q)), (eN (D * B * Q)), (Value.bool (decide ((D * B * Q) < (D * B * Q))))] ++ (zs z 28 10 ++ [(ptr gb 0), (eN D), (eN j), (Value.bool (decide (j < D)))] ++ (zs z 42 13 ++ [ub, (eN lb.length), (eN i4), (Value.bool (decide (i4 < lb.length)))] ++ (zs z 59 22 ++ [undef])))) ?_
 refine wpL.done ?_
 refine then_n ?_
 refine wpIn_seq ?_
 refine cond_if rfl (fun c4 => ?_) (fun c4 => ?_)
 ·
  refine wpIn_skip ?_
  refine then_n ?_
  refine wpIn_seq ?_
  refine wpIn_block ?_
  refine wpIn_seq ?_
  refine plain ?_
  refine wO (d_indexS (q := (kA 2 eP)) (xs := lb) (v := (lb.getD i4 (0, 0))) Try.underlying24 s_ti51 rfl h2 (show _ = Value.int _ ((i4 : Nat) : Int) from rfl) (by omega) (g_at (by first | omega | (simp; done) | (simp; omega)))) ?_
  rintro u59 _ ⟨f60, rfl⟩
  refine wI (d_loadAtA (enc := eP) (v := (lb.getD i4 (0, 0))) ⟨_, Try.underlying51, rfl⟩ s_ti51 rfl f60) ?_
  refine wO (d_alloc s_ti51 rfl) ?_
  rintro _ w62 ⟨b61, rfl, g63, a64, o65⟩
  have g_oW_b61 : W.heap.size ≤ b61 := Nat.le_trans oW.size g63
  have g_o57_b61 : w39.heap.size ≤ b61 := Nat.le_trans o57.size g63
  replace hN := hN.new o65 g63
  replace h2 := h2.new o65 g63
  replace f60 := f60.new o65 g63
  replace oW := oW.tail0 o65
  replace o57 := o57.tail0 o65
  refine wF ([(Value.agg #[(eN D), (eN B), (eN Q)]), ub, (ptr gb 0), undef, (z 4), (z 5), (ptr Lq.bN 0), (z 7), undef, (ptr b61 0), (Value.agg #[(eN D), (eN B), (eN Q)]), (Value.bool true), (Value.bool false), (Value.agg #[(eN D), (eN B), (eN Q)]), (Value.agg #[(eN D), (eN B), (eN Q)]), (Value.agg #[(eN D), (eN B), (eN Q), (sli db 0 (D * B * Q) (D * B * Q))]), (Value.agg #[(eN D), (eN B), (eN Q)]), (Value.agg #[(eN D), (eN B), (eN Q), (sli zb 0 (D * B * Q) (D * B * Q))]), (Value.agg #[(eN D), (eN B), (eN Q), (eN D), (eN B), (eN Q), (sli db 0 (D * B * Q) (D * B * Q)), (eN D), (eN B), (eN Q), (sli zb 0 (D * B * Q) (D * B * Q)), (Value.slice none 0 0), (eN 0), (Value.slice none 0 0), (Value.bool false), (eN 0), (eN 0)]), (ptr cb 0), (ptr cb 0), (ptr cb 0), (ptr cb 3), (ptr cb 6), (sli db 0 (D * B * Q) (D * B * Q)), (eN (D * B * Q)), (eN (D * B * Q)), (Value.bool (decide ((D * B * Q) < (D * B * Q))))] ++ (zs z 28 10 ++ [(ptr gb 0), (eN D), (eN j), (Value.bool (decide (j < D)))] ++ (zs z 42 13 ++ [ub, (eN lb.length), (eN i4), (Value.bool (decide (i4 < lb.length))), u59, (Value.agg #[(eN ((lb.getD i4 (0, 0)).1)), (eN ((lb.getD i4 (0, 0)).2))])] ++ (zs z 61 20 ++ [undef])))) ?_
  refine wO (d_storeAg (cs' := [(eN ((lb.getD i4 (0, 0)).1)), (eN ((lb.getD i4 (0, 0)).2))]) s_ti51 rfl rfl rfl (oc_cons rfl (oc_cons rfl oc_nil)) a64 (by decide) rfl) ?_
  rintro _ w66 ⟨a67, o68⟩
  replace hN := hN.stepb o68 in1
  replace h2 := h2.stepb o68 in1
  replace f60 := f60.stepb o68 in1
  replace oW := oW.tailb o68 g_oW_b61
  replace o57 := o57.tailb o68 g_o57_b61
  refine wF ([(Value.agg #[(eN D), (eN B), (eN Q)]), ub, (ptr gb 0), undef, (z 4), (z 5), (ptr Lq.bN 0), (z 7), undef, (ptr b61 0), (Value.agg #[(eN D), (eN B), (eN Q)]), (Value.bool true), (Value.bool false), (Value.agg #[(eN D), (eN B), (eN Q)]), (Value.agg #[(eN D), (eN B), (eN Q)]), (Value.agg #[(eN D), (eN B), (eN Q), (sli db 0 (D * B * Q) (D * B * Q))]), (Value.agg #[(eN D), (eN B), (eN Q)]), (Value.agg #[(eN D), (eN B), (eN Q), (sli zb 0 (D * B * Q) (D * B * Q))]), (Value.agg #[(eN D), (eN B), (eN Q), (eN D), (eN B), (eN Q), (sli db 0 (D * B * Q) (D * B * Q)), (eN D), (eN B), (eN Q), (sli zb 0 (D * B * Q) (D * B * Q)), (Value.slice none 0 0), (eN 0), (Value.slice none 0 0), (Value.bool false), (eN 0), (eN 0)]), (ptr cb 0), (ptr cb 0), (ptr cb 0), (ptr cb 3), (ptr cb 6), (sli db 0 (D * B * Q) (D * B * Q)), (eN (D * B * Q)), (eN (D * B * Q)), (Value.bool (decide ((D * B * Q) < (D * B * Q))))] ++ (zs z 28 10 ++ [(ptr gb 0), (eN D), (eN j), (Value.bool (decide (j < D)))] ++ (zs z 42 13 ++ [ub, (eN lb.length), (eN i4), (Value.bool (decide (i4 < lb.length))), u59, (Value.agg #[(eN ((lb.getD i4 (0, 0)).1)), (eN ((lb.getD i4 (0, 0)).2))])] ++ (zs z 61 20 ++ [undef])))) ?_
  refine wpL.done ?_
  refine then_n ?_
  refine wpIn_seq ?_
  refine wpIn_seq ?_
  have hx_ := hlb i4 (by omega)
  have hth_ := newI_there hS hx_.1 hx_.2
  refine plain ?_
  refine wI (d_move rfl) ?_
  refine wI (d_indexArr1 (i := 0) Try.underlying51 s_ti3 rfl (show _ = Value.int _ ((0 : Nat) : Int) from rfl) (by omega)) ?_
  refine wI (d_load (v := (eN ((lb.getD i4 (0, 0)).1))) ⟨_, Try.underlying3, rfl⟩ rfl a67 rfl) ?_
  refine wF ([(Value.agg #[(eN D), (eN B), (eN Q)]), ub, (ptr gb 0), undef, (z 4), (z 5), (ptr Lq.bN 0), (z 7), undef, (ptr b61 0), (Value.agg #[(eN D), (eN B), (eN Q)]), (Value.bool true), (Value.bool false), (Value.agg #[(eN D), (eN B), (eN Q)]), (Value.agg #[(eN D), (eN B), (eN Q)]), (Value.agg #[(eN D), (eN B), (eN Q), (sli db 0 (D * B * Q) (D * B * Q))]), (Value.agg #[(eN D), (eN B), (eN Q)]), (Value.agg #[(eN D), (eN B), (eN Q), (sli zb 0 (D * B * Q) (D * B * Q))]), (Value.agg #[(eN D), (eN B), (eN Q), (eN D), (eN B), (eN Q), (sli db 0 (D * B * Q) (D * B * Q)), (eN D), (eN B), (eN Q), (sli zb 0 (D * B * Q) (D * B * Q)), (Value.slice none 0 0), (eN 0), (Value.slice none 0 0), (Value.bool false), (eN 0), (eN 0)]), (ptr cb 0), (ptr cb 0), (ptr cb 0), (ptr cb 3), (ptr cb 6), (sli db 0 (D * B * Q) (D * B * Q)), (eN (D * B * Q)), (eN (D * B * Q)), (Value.bool (decide ((D * B * Q) < (D * B * Q))))] ++ (zs z 28 10 ++ [(ptr gb 0), (eN D), (eN j), (Value.bool (decide (j < D)))] ++ (zs z 42 13 ++ [ub, (eN lb.length), (eN i4), (Value.bool (decide (i4 < lb.length))), u59, (Value.agg #[(eN ((lb.getD i4 (0, 0)).1)), (eN ((lb.getD i4 (0, 0)).2))]), (ptr Lq.bN 0), (ptr b61 0), (eN ((lb.getD i4 (0, 0)).1))] ++ (zs z 64 17 ++ [undef])))) ?_
  refine wI (d_indexArr1 (i := 1) Try.underlying51 s_ti3 rfl (show _ = Value.int _ ((1 : Nat) : Int) from rfl) (by omega)) ?_
  refine wI (d_load (v := (eN ((lb.getD i4 (0, 0)).2))) ⟨_, Try.underlying3, rfl⟩ rfl a67 rfl) ?_
  refine wO (d_call (xl := [.tmp 61, .tmp 63, .tmp 65]) (al := [(ptr Lq.bN 0), (eN ((lb.getD i4 (0, 0)).1)), (eN ((lb.getD i4 (0, 0)).2))]) Try.func40 (by kernel_rfl) rfl rfl rfl (there_ok Lq s4 _ hN (r := true) (((lb.getD i4 (0, 0)).1 : Nat) : Int) (((lb.getD i4 (0, 0)).2 : Nat) : Int) hth_)) ?_
  rintro _ w69 ⟨rfl, o70⟩
  replace hN := hN.step0 o70
  replace h2 := h2.step0 o70
  replace f60 := f60.step0 o70
  replace a67 := a67.step0 o70
  replace oW := oW.tail0 o70
  replace o57 := o57.tail0 o70
  refine wF ([(Value.agg #[(eN D), (eN B), (eN Q)]), ub, (ptr gb 0), undef, (z 4), (z 5), (ptr Lq.bN 0), (z 7), undef, (ptr b61 0), (Value.agg #[(eN D), (eN B), (eN Q)]), (Value.bool true), (Value.bool false), (Value.agg #[(eN D), (eN B), (eN Q)]), (Value.agg #[(eN D), (eN B), (eN Q)]), (Value.agg #[(eN D), (eN B), (eN Q), (sli db 0 (D * B * Q) (D * B * Q))]), (Value.agg #[(eN D), (eN B), (eN Q)]), (Value.agg #[(eN D), (eN B), (eN Q), (sli zb 0 (D * B * Q) (D * B * Q))]), (Value.agg #[(eN D), (eN B), (eN Q), (eN D), (eN B), (eN Q), (sli db 0 (D * B * Q) (D * B * Q)), (eN D), (eN B), (eN Q), (sli zb 0 (D * B * Q) (D * B * Q)), (Value.slice none 0 0), (eN 0), (Value.slice none 0 0), (Value.bool false), (eN 0), (eN 0)]), (ptr cb 0), (ptr cb 0), (ptr cb 0), (ptr cb 3), (ptr cb 6), (sli db 0 (D * B * Q) (D * B * Q)), (eN (D * B * Q)), (eN (D * B * Q)), (Value.bool (decide ((D * B * Q) < (D * B * Q))))] ++ (zs z 28 10 ++ [(ptr gb 0), (eN D), (eN j), (Value.bool (decide (j < D)))] ++ (zs z 42 13 ++ [ub, (eN lb.length), (eN i4), (Value.bool (decide (i4 < lb.length))), u59, (Value.agg #[(eN ((lb.getD i4 (0, 0)).1)), (eN ((lb.getD i4 (0, 0)).2))]), (ptr Lq.bN 0), (ptr b61 0), (eN ((lb.getD i4 (0, 0)).1)), (ptr b61 1), (eN ((lb.getD i4 (0, 0)).2)), (Value.bool true)] ++ (zs z 67 14 ++ [undef])))) ?_
  refine wI (d_not rfl rfl) ?_
  refine wF ([(Value.agg #[(eN D), (eN B), (eN Q)]), ub, (ptr gb 0), undef, (z 4), (z 5), (ptr Lq.bN 0), (z 7), undef, (ptr b61 0), (Value.agg #[(eN D), (eN B), (eN Q)]), (Value.bool true), (Value.bool false), (Value.agg #[(eN D), (eN B), (eN Q)]), (Value.agg #[(eN D), (eN B), (eN Q)]), (Value.agg #[(eN D), (eN B), (eN Q), (sli db 0 (D * B * Q) (D * B * Q))]), (Value.agg #[(eN D), (eN B), (eN Q)]), (Value.agg #[(eN D), (eN B), (eN Q), (sli zb 0 (D * B * Q) (D * B * Q))]), (Value.agg #[(eN D), (eN B), (eN Q), (eN D), (eN B), (eN Q), (sli db 0 (D * B * Q) (D * B * Q)), (eN D), (eN B), (eN Q), (sli zb 0 (D * B * Q) (D * B * Q)), (Value.slice none 0 0), (eN 0), (Value.slice none 0 0), (Value.bool false), (eN 0), (eN 0)]), (ptr cb 0), (ptr cb 0), (ptr cb 0), (ptr cb 3), (ptr cb 6), (sli db 0 (D * B * Q) (D * B * Q)), (eN (D * B * Q)), (eN (D * B * Q)), (Value.bool (decide ((D * B * Q) < (D * B * Q))))] ++ (zs z 28 10 ++ [(ptr gb 0), (eN D), (eN j), (Value.bool (decide (j < D)))] ++ (zs z 42 13 ++ [ub, (eN lb.length), (eN i4), (Value.bool (decide (i4 < lb.length))), u59, (Value.agg #[(eN ((lb.getD i4 (0, 0)).1)), (eN ((lb.getD i4 (0, 0)).2))]), (ptr Lq.bN 0), (ptr b61 0), (eN ((lb.getD i4 (0, 0)).1)), (ptr b61 1), (eN ((lb.getD i4 (0, 0)).2)), (Value.bool true), (Value.bool false)] ++ (zs z 68 13 ++ [undef])))) ?_
  refine wpL.done ?_
  refine then_n ?_
  refine cond_f rfl ?_
  refine wpIn_skip ?_
  refine then_n ?_
  refine drawnT (O := (Or1 b61 (Ors Lq.S No))) (n := 13) 10 [0, 1, 3, 7, 0, 16, 63, 127, 0, 256, 1023, 2047, 4095] [(0, 68), (1, 69), (2, 70), (3, 71), (4, 72), (5, 73), (6, 74), (7, 75), (8, 76), (9, 77), (10, 78), (11, 79)] [(0, 68), (1, 69), (2, 70), (3, 71), (4, 72), (5, 73), (6, 74), (7, 75), (8, 76), (9, 77)] [0, 1, 2, 3, 4, 5, 6, 7, 8, 9] [] (fun i_ => ([RF.is (Or1 b61 (Ors Lq.S No)) (ptr Lq.bN 0), RF.is (Or1 b61 (Ors Lq.S No)) (ptr Lq.bN 0), RF.is (Or1 b61 (Ors Lq.S No)) (ptr Lq.bN 11), RF.is (Or1 b61 (Ors Lq.S No)) Lq.ub, RF.is (Or1 b61 (Ors Lq.S No)) (ptr b61 0), RF.is (Or1 b61 (Ors Lq.S No)) (eN ((lb.getD i4 (0, 0)).1)), RF.is (Or1 b61 (Ors Lq.S No)) (ixp Lq.ub ((lb.getD i4 (0, 0)).1)), RF.is (Or1 b61 (Ors Lq.S No)) (sli (Lq.bk.getD ((lb.getD i4 (0, 0)).1) 0) 0 s4.gB s4.gB), RF.is (Or1 b61 (Ors Lq.S No)) (ptr b61 1), RF.is (Or1 b61 (Ors Lq.S No)) (eN ((lb.getD i4 (0, 0)).2))] : List (RF (Or1 b61 (Ors Lq.S No)))).getD i_ (RF.any (Or1 b61 (Ors Lq.S No)))) (fun _ w_ => Arr 51 b61 [(eN ((lb.getD i4 (0, 0)).1)), (eN ((lb.getD i4 (0, 0)).2))] w_ ∧ Nd Lq s4 (Or1 b61 (Old W.heap.size)) w_) (fun v71 => ([(Value.agg #[(eN D), (eN B), (eN Q)]), ub, (ptr gb 0), undef, (z 4), (z 5), (ptr Lq.bN 0), (z 7), undef, (ptr b61 0), (Value.agg #[(eN D), (eN B), (eN Q)]), (Value.bool true), (Value.bool false), (Value.agg #[(eN D), (eN B), (eN Q)]), (Value.agg #[(eN D), (eN B), (eN Q)]), (Value.agg #[(eN D), (eN B), (eN Q), (sli db 0 (D * B * Q) (D * B * Q))]), (Value.agg #[(eN D), (eN B), (eN Q)]), (Value.agg #[(eN D), (eN B), (eN Q), (sli zb 0 (D * B * Q) (D * B * Q))]), (Value.agg #[(eN D), (eN B), (eN Q), (eN D), (eN B), (eN Q), (sli db 0 (D * B * Q) (D * B * Q)), (eN D), (eN B), (eN Q), (sli zb 0 (D * B * Q) (D * B * Q)), (Value.slice none 0 0), (eN 0), (Value.slice none 0 0), (Value.bool false), (eN 0), (eN 0)]), (ptr cb 0), (ptr cb 0), (ptr cb 0), (ptr cb 3), (ptr cb 6), (sli db 0 (D * B * Q) (D * B * Q)), (eN (D * B * Q)), (eN (D * B * Q)), (Value.bool (decide ((D * B * Q) < (D * B * Q))))] ++ (zs z 28 10 ++ [(ptr gb 0), (eN D), (eN j), (Value.bool (decide (j < D)))] ++ (zs z 42 13 ++ [ub, (eN lb.length), (eN i4), (Value.bool (decide (i4 < lb.length))), u59, (Value.agg #[(eN ((lb.getD i4 (0, 0)).1)), (eN ((lb.getD i4 (0, 0)).2))]), (ptr Lq.bN 0), (ptr b61 0), (eN ((lb.getD i4 (0, 0)).1)), (ptr b61 1), (eN ((lb.getD i4 (0, 0)).2)), (Value.bool true), (Value.bool false), (v71 0), (v71 1), (v71 2), (v71 3), (v71 4), (v71 5), (v71 6), (v71 7), (v71 8), (v71 9), (v71 10), (v71 11), (z 80), undef])))) (fun v71 => ([(Value.agg #[(eN D), (eN B), (eN Q)]), ub, (ptr gb 0), undef, (z 4), (z 5), (ptr Lq.bN 0), (z 7), undef, (ptr b61 0), (Value.agg #[(eN D), (eN B), (eN Q)]), (Value.bool true), (Value.bool false), (Value.agg #[(eN D), (eN B), (eN Q)]), (Value.agg #[(eN D), (eN B), (eN Q)]), (Value.agg #[(eN D), (eN B), (eN Q), (sli db 0 (D * B * Q) (D * B * Q))]), (Value.agg #[(eN D), (eN B), (eN Q)]), (Value.agg #[(eN D), (eN B), (eN Q), (sli zb 0 (D * B * Q) (D * B * Q))]), (Value.agg #[(eN D), (eN B), (eN Q), (eN D), (eN B), (eN Q), (sli db 0 (D * B * Q) (D * B * Q)), (eN D), (eN B), (eN Q), (sli zb 0 (D * B * Q) (D * B * Q)), (Value.slice none 0 0), (eN 0), (Value.slice none 0 0), (Value.bool false), (eN 0), (eN 0)]), (ptr cb 0), (ptr cb 0), (ptr cb 0), (ptr cb 3), (ptr cb 6), (sli db 0 (D * B * Q) (D * B * Q)), (eN (D * B * Q)), (eN (D * B * Q)), (Value.bool (decide ((D * B * Q) < (D * B * Q))))] ++ (zs z 28 10 ++ [(ptr gb 0), (eN D), (eN j), (Value.bool (decide (j < D)))] ++ (zs z 42 13 ++ [ub, (eN lb.length), (eN i4), (Value.bool (decide (i4 < lb.length))), u59, (Value.agg #[(eN ((lb.getD i4 (0, 0)).1)), (eN ((lb.getD i4 (0, 0)).2))]), (ptr Lq.bN 0), (ptr b61 0), (eN ((lb.getD i4 (0, 0)).1)), (ptr b61 1), (eN ((lb.getD i4 (0, 0)).2)), (Value.bool true), (Value.bool false), (v71 0), (v71 1), (v71 2), (v71 3), (v71 4), (v71 5), (v71 6), (v71 7), (v71 8), (v71 9), (z 78), (z 79), (z 80), undef])))) s_mx (by kernel_rfl) rfl (by decide) (by rfl) (by kernel_rfl) (by kernel_rfl) (by kernel_rfl) (by rfl) (fun v_ => by kernel_rfl) (fun v_ => by kernel_rfl) (fun _ => fun w_ w2_ h ho => by obtain ⟨r_a67, r_hN⟩ := h; exact ⟨r_a67.step0 ho, r_hN.step0 ho⟩) ⟨a67, hN⟩ ?_ ?_ ?_
  ·
   refine ls_cons ?_ ?_
   ·
    intro v71 lo hi w_ k_ hO hd _ _ hk_ _ hR hold
    obtain ⟨r_a67, r_hN⟩ := hR
    clear hd hold
    refine ⟨_, rfl, gd rfl ?_⟩
    exact Does.is (d_move rfl)
   refine ls_cons ?_ ?_
   ·
    intro v71 lo hi w_ k_ hO hd _ _ hk_ _ hR hold
    obtain ⟨r_a67, r_hN⟩ := hR
    have e0 : v71 0 = (ptr Lq.bN 0) := hd 0 (by kernel_rfl)
    clear hd hold
    refine ⟨_, rfl, gd rfl ?_⟩
    exact Does.is (d_nilCheck (b := Lq.bN) (o := 0) e0)
   refine ls_cons ?_ ?_
   ·
    intro v71 lo hi w_ k_ hO hd _ _ hk_ _ hR hold
    obtain ⟨r_a67, r_hN⟩ := hR
    have e1 : v71 1 = (ptr Lq.bN 0) := hd 1 (by kernel_rfl)
    clear hd hold
    refine ⟨_, rfl, gd rfl ?_⟩
    exact Does.is (d_fieldAddr (j := 11) Try.underlying73 rfl s_ti71 (by decide) e1 rfl)
   refine ls_cons ?_ ?_
   ·
    intro v71 lo hi w_ k_ hO hd _ _ hk_ _ hR hold
    obtain ⟨r_a67, r_hN⟩ := hR
    have e2 : v71 2 = (ptr Lq.bN 11) := hd 2 (by kernel_rfl)
    clear hd hold
    refine ⟨_, rfl, gd rfl ?_⟩
    exact Does.is (nd_ld (v := Lq.ub) r_hN ⟨_, Try.underlying71, rfl⟩ e2 (fun _ => rfl))
   refine ls_cons ?_ ?_
   ·
    intro v71 lo hi w_ k_ hO hd _ _ hk_ _ hR hold
    obtain ⟨r_a67, r_hN⟩ := hR
    clear hd hold
    refine ⟨_, rfl, gd rfl ?_⟩
    exact Does.is (d_indexArr1 (i := 0) Try.underlying51 s_ti3 rfl (show _ = Value.int _ ((0 : Nat) : Int) from rfl) (by omega))
   refine ls_cons ?_ ?_
   ·
    intro v71 lo hi w_ k_ hO hd _ _ hk_ _ hR hold
    obtain ⟨r_a67, r_hN⟩ := hR
    have e4 : v71 4 = (ptr b61 0) := hd 4 (by kernel_rfl)
    clear hd hold
    refine ⟨_, rfl, gd rfl ?_⟩
    exact Does.is (d_load (v := (eN ((lb.getD i4 (0, 0)).1))) ⟨_, Try.underlying3, rfl⟩ e4 r_a67 rfl)
   refine ls_cons ?_ ?_
   ·
    intro v71 lo hi w_ k_ hO hd _ _ hk_ _ hR hold
    obtain ⟨r_a67, r_hN⟩ := hR
    have e3 : v71 3 = Lq.ub := hd 3 (by kernel_rfl)
    have e5 : v71 5 = (eN ((lb.getD i4 (0, 0)).1)) := hd 5 (by kernel_rfl)
    clear hd hold
    refine ⟨_, rfl, gd rfl ?_⟩
    exact Does.is (nd_ixU (i := ((lb.getD i4 (0, 0)).1)) r_hN Try.underlying71 s_ti75 e3 (show _ = Value.int _ (((lb.getD i4 (0, 0)).1 : Nat) : Int) from e5) (by rw [hS.c.gD]; exact hx_.1))
   refine ls_cons ?_ ?_
   ·
    intro v71 lo hi w_ k_ hO hd _ _ hk_ _ hR hold
    obtain ⟨r_a67, r_hN⟩ := hR
    have e6 : v71 6 = (ixp Lq.ub ((lb.getD i4 (0, 0)).1)) := hd 6 (by kernel_rfl)
    clear hd hold
    refine ⟨_, rfl, gd rfl ?_⟩
    exact Does.is (nd_ldU (i := ((lb.getD i4 (0, 0)).1)) r_hN ⟨_, Try.underlying75, rfl⟩ e6 (by rw [hS.c.gD]; exact hx_.1))
   refine ls_cons ?_ ?_
   ·
    intro v71 lo hi w_ k_ hO hd _ _ hk_ _ hR hold
    obtain ⟨r_a67, r_hN⟩ := hR
    clear hd hold
    refine ⟨_, rfl, gd rfl ?_⟩
    exact Does.is (d_indexArr1 (i := 1) Try.underlying51 s_ti3 rfl (show _ = Value.int _ ((1 : Nat) : Int) from rfl) (by omega))
   refine ls_cons ?_ ?_
   ·
    intro v71 lo hi w_ k_ hO hd _ _ hk_ _ hR hold
    obtain ⟨r_a67, r_hN⟩ := hR
    have e8 : v71 8 = (ptr b61 1) := hd 8 (by kernel_rfl)
    clear hd hold
    refine ⟨_, rfl, gd rfl ?_⟩
    exact Does.is (d_load (v := (eN ((lb.getD i4 (0, 0)).2))) ⟨_, Try.underlying3, rfl⟩ e8 r_a67 rfl)
   exact ls_nil
  ·
   exact ms_nil
  intro v71 lo_ hi_ w72 o73 hd iv_ hR
  have e0 : v71 0 = (ptr Lq.bN 0) := hd 0 (by decide)
  have e1 : v71 1 = (ptr Lq.bN 0) := hd 1 (by decide)
  have e2 : v71 2 = (ptr Lq.bN 11) := hd 2 (by decide)
  have e3 : v71 3 = Lq.ub := hd 3 (by decide)
  have e4 : v71 4 = (ptr b61 0) := hd 4 (by decide)
  have e5 : v71 5 = (eN ((lb.getD i4 (0, 0)).1)) := hd 5 (by decide)
  have e6 : v71 6 = (ixp Lq.ub ((lb.getD i4 (0, 0)).1)) := hd 6 (by decide)
  have e7 : v71 7 = (sli (Lq.bk.getD ((lb.getD i4 (0, 0)).1) 0) 0 s4.gB s4.gB) := hd 7 (by decide)
  have e8 : v71 8 = (ptr b61 1) := hd 8 (by decide)
  have e9 : v71 9 = (eN ((lb.getD i4 (0, 0)).2)) := hd 9 (by decide)
  clear hd iv_ lo_ hi_
  refine wpL.flat ([(Value.agg #[(eN D), (eN B), (eN Q)]), ub, (ptr gb 0), undef, (z 4), (z 5), (ptr Lq.bN 0), (z 7), undef, (ptr b61 0), (Value.agg #[(eN D), (eN B), (eN Q)]), (Value.bool true), (Value.bool false), (Value.agg #[(eN D), (eN B), (eN Q)]), (Value.agg #[(eN D), (eN B), (eN Q)]), (Value.agg #[(eN D), (eN B), (eN Q), (sli db 0 (D * B * Q) (D * B * Q))]), (Value.agg #[(eN D), (eN B), (eN Q)]), (Value.agg #[(eN D), (eN B), (eN Q), (sli zb 0 (D * B * Q) (D * B * Q))]), (Value.agg #[(eN D), (eN B), (eN Q), (eN D), (eN B), (eN Q), (sli db 0 (D * B * Q) (D * B * Q)), (eN D), (eN B), (eN Q), (sli zb 0 (D * B * Q) (D * B * Q)), (Value.slice none 0 0), (eN 0), (Value.slice none 0 0), (Value.bool false), (eN 0), (eN 0)]), (ptr cb 0), (ptr cb 0), (ptr cb 0), (ptr cb 3), (ptr cb 6), (sli db 0 (D * B * Q) (D * B * Q)), (eN (D * B * Q)), (eN (D * B * Q)), (Value.bool (decide ((D * B * Q) < (D * B * Q))))] ++ (zs z 28 10 ++ [(ptr gb 0), (eN D), (eN j), (Value.bool (decide (j < D)))] ++ (zs z 42 13 ++ [ub, (eN lb.length), (eN i4), (Value.bool (decide (i4 < lb.length))), u59, (Value.agg #[(eN ((lb.getD i4 (0, 0)).1)), (eN ((lb.getD i4 (0, 0)).2))]), (ptr Lq.bN 0), (ptr b61 0), (eN ((lb.getD i4 (0, 0)).1)), (ptr b61 1), (eN ((lb.getD i4 (0, 0)).2)), (Value.bool true), (Value.bool false), (ptr Lq.bN 0), (ptr Lq.bN 0), (ptr Lq.bN 11), Lq.ub, (ptr b61 0), (eN ((lb.getD i4 (0, 0)).1)), (ixp Lq.ub ((lb.getD i4 (0, 0)).1)), (sli (Lq.bk.getD ((lb.getD i4 (0, 0)).1) 0) 0 s4.gB s4.gB), (ptr b61 1), (eN ((lb.getD i4 (0, 0)).2)), (z 78), (z 79), (z 80), undef]))) (by rw [e0, e1, e2, e3, e4, e5, e6, e7, e8, e9] <;> rfl) ?_
  clear e0 e1 e2 e3 e4 e5 e6 e7 e8 e9
  replace h2 := h2.step o73 (or1_mono (ors_mono no_any))
  replace f60 := f60.step o73 (or1_mono (ors_mono no_any))
  obtain ⟨xr_a67, xr_hN⟩ := hR
  replace a67 : Arr 51 b61 [(eN ((lb.getD i4 (0, 0)).1)), (eN ((lb.getD i4 (0, 0)).2))] w72 := xr_a67
  replace hN := xr_hN
  clear xr_a67 xr_hN
  replace oW := oW.tail o73 (tl_new g_oW_b61 (tl_snew g_oW_Lq tl_no))
  replace o57 := o57.tail o73 (tl_new g_o57_b61 (tl_sin sub1 tl_no))
  refine wI (d_index (b := (Lq.bk.getD ((lb.getD i4 (0, 0)).1) 0)) (o := 0) (n := s4.gB) (c := s4.gB) (j := (((lb.getD i4 (0, 0)).2) * 3)) Try.underlying75 s_ti77 rfl (show _ = Value.int _ (((lb.getD i4 (0, 0)).2 : Nat) : Int) from rfl) (by omega) (by rw [hS.c.gB]; exact Int.ofNat_lt.2 hx_.2) (by simp)) ?_
  refine wI (d_fieldAddr (j := ((lb.getD i4 (0, 0)).2) * 3 + 2) Try.underlying77 rfl s_ti4 (by decide) rfl rfl) ?_
  refine wF ([(Value.agg #[(eN D), (eN B), (eN Q)]), ub, (ptr gb 0), undef, (z 4), (z 5), (ptr Lq.bN 0), (z 7), undef, (ptr b61 0), (Value.agg #[(eN D), (eN B), (eN Q)]), (Value.bool true), (Value.bool false), (Value.agg #[(eN D), (eN B), (eN Q)]), (Value.agg #[(eN D), (eN B), (eN Q)]), (Value.agg #[(eN D), (eN B), (eN Q), (sli db 0 (D * B * Q) (D * B * Q))]), (Value.agg #[(eN D), (eN B), (eN Q)]), (Value.agg #[(eN D), (eN B), (eN Q), (sli zb 0 (D * B * Q) (D * B * Q))]), (Value.agg #[(eN D), (eN B), (eN Q), (eN D), (eN B), (eN Q), (sli db 0 (D * B * Q) (D * B * Q)), (eN D), (eN B), (eN Q), (sli zb 0 (D * B * Q) (D * B * Q)), (Value.slice none 0 0), (eN 0), (Value.slice none 0 0), (Value.bool false), (eN 0), (eN 0)]), (ptr cb 0), (ptr cb 0), (ptr cb 0), (ptr cb 3), (ptr cb 6), (sli db 0 (D * B * Q) (D * B * Q)), (eN (D * B * Q)), (eN (D * B * Q)), (Value.bool (decide ((D * B * Q) < (D * B * Q))))] ++ (zs z 28 10 ++ [(ptr gb 0), (eN D), (eN j), (Value.bool (decide (j < D)))] ++ (zs z 42 13 ++ [ub, (eN lb.length), (eN i4), (Value.bool (decide (i4 < lb.length))), u59, (Value.agg #[(eN ((lb.getD i4 (0, 0)).1)), (eN ((lb.getD i4 (0, 0)).2))]), (ptr Lq.bN 0), (ptr b61 0), (eN ((lb.getD i4 (0, 0)).1)), (ptr b61 1), (eN ((lb.getD i4 (0, 0)).2)), (Value.bool true), (Value.bool false), (ptr Lq.bN 0), (ptr Lq.bN 0), (ptr Lq.bN 11), Lq.ub, (ptr b61 0), (eN ((lb.getD i4 (0, 0)).1)), (ixp Lq.ub ((lb.getD i4 (0, 0)).1)), (sli (Lq.bk.getD ((lb.getD i4 (0, 0)).1) 0) 0 s4.gB s4.gB), (ptr b61 1), (eN ((lb.getD i4 (0, 0)).2)), (ptr (Lq.bk.getD ((lb.getD i4 (0, 0)).1) 0) (((lb.getD i4 (0, 0)).2) * 3)), (ptr (Lq.bk.getD ((lb.getD i4 (0, 0)).1) 0) (((lb.getD i4 (0, 0)).2) * 3 + 2)), (z 80), undef]))) ?_
  refine wO (nd_stS (i := ((lb.getD i4 (0, 0)).1)) (j := ((lb.getD i4 (0, 0)).2)) (f := 2) (x' := { s4.bl ((lb.getD i4 (0, 0)).1) ((lb.getD i4 (0, 0)).2) with bad := true }) hN s_ti4 rfl rfl rfl (by rw [hS.c.gD]; exact hx_.1) (by rw [hS.c.gB]; exact hx_.2) (by decide) rfl (hN.ok.nx _ _)) ?_
  rintro _ w74 ⟨a75, o76⟩
  replace a67 := a67.step o76 (hN.dis _ in1)
  replace h2 := h2.step o76 (sub2 sub1)
  replace f60 := f60.step o76 (sub2 sub1)
  replace oW := oW.tail o76 (fun k hk e => by have := g_oW_Lq k e; omega)
  replace o57 := o57.tail o76 (fun k _ e => sub1 k e)
  replace hN := a75
  refine wF ([(Value.agg #[(eN D), (eN B), (eN Q)]), ub, (ptr gb 0), undef, (z 4), (z 5), (ptr Lq.bN 0), (z 7), undef, (ptr b61 0), (Value.agg #[(eN D), (eN B), (eN Q)]), (Value.bool true), (Value.bool false), (Value.agg #[(eN D), (eN B), (eN Q)]), (Value.agg #[(eN D), (eN B), (eN Q)]), (Value.agg #[(eN D), (eN B), (eN Q), (sli db 0 (D * B * Q) (D * B * Q))]), (Value.agg #[(eN D), (eN B), (eN Q)]), (Value.agg #[(eN D), (eN B), (eN Q), (sli zb 0 (D * B * Q) (D * B * Q))]), (Value.agg #[(eN D), (eN B), (eN Q), (eN D), (eN B), (eN Q), (sli db 0 (D * B * Q) (D * B * Q)), (eN D), (eN B), (eN Q), (sli zb 0 (D * B * Q) (D * B * Q)), (Value.slice none 0 0), (eN 0), (Value.slice none 0 0), (Value.bool false), (eN 0), (eN 0)]), (ptr cb 0), (ptr cb 0), (ptr cb 0), (ptr cb 3), (ptr cb 6), (sli db 0 (D * B * Q) (D * B * Q)), (eN (D * B * Q)), (eN (D * B * Q)), (Value.bool (decide ((D * B * Q) < (D * B * Q))))] ++ (zs z 28 10 ++ [(ptr gb 0), (eN D), (eN j), (Value.bool (decide (j < D)))] ++ (zs z 42 13 ++ [ub, (eN lb.length), (eN i4), (Value.bool (decide (i4 < lb.length))), u59, (Value.agg #[(eN ((lb.getD i4 (0, 0)).1)), (eN ((lb.getD i4 (0, 0)).2))]), (ptr Lq.bN 0), (ptr b61 0), (eN ((lb.getD i4 (0, 0)).1)), (ptr b61 1), (eN ((lb.getD i4 (0, 0)).2)), (Value.bool true), (Value.bool false), (ptr Lq.bN 0), (ptr Lq.bN 0), (ptr Lq.bN 11), Lq.ub, (ptr b61 0), (eN ((lb.getD i4 (0, 0)).1)), (ixp Lq.ub ((lb.getD i4 (0, 0)).1)), (sli (Lq.bk.getD ((lb.getD i4 (0, 0)).1) 0) 0 s4.gB s4.gB), (ptr b61 1), (eN ((lb.getD i4 (0, 0)).2)), (ptr (Lq.bk.getD ((lb.getD i4 (0, 0)).1) 0) (((lb.getD i4 (0, 0)).2) * 3)), (ptr (Lq.bk.getD ((lb.getD i4 (0, 0)).1) 0) (((lb.getD i4 (0, 0)).2) * 3 + 2)), (z 80), undef]))) ?_
  refine wpL.done ?_
  refine inb_n (then_n ?_)
  refine plain ?_
  refine wI (n_add (a := i4) (b := 1) rfl rfl (by omega)) ?_
  refine wI (d_move rfl) ?_
  refine wF ([(Value.agg #[(eN D), (eN B), (eN Q)]), ub, (ptr gb 0), undef, (z 4), (z 5), (ptr Lq.bN 0), (z 7), undef, (ptr b61 0), (Value.agg #[(eN D), (eN B), (eN Q)]), (Value.bool true), (Value.bool false), (Value.agg #[(eN D), (eN B), (eN Q)]), (Value.agg #[(eN D), (eN B), (eN Q)]), (Value.agg #[(eN D), (eN B), (eN Q), (sli db 0 (D * B * Q) (D * B * Q))]), (Value.agg #[(eN D), (eN B), (eN Q)]), (Value.agg #[(eN D), (eN B), (eN Q), (sli zb 0 (D * B * Q) (D * B * Q))]), (Value.agg #[(eN D), (eN B), (eN Q), (eN D), (eN B), (eN Q), (sli db 0 (D * B * Q) (D * B * Q)), (eN D), (eN B), (eN Q), (sli zb 0 (D * B * Q) (D * B * Q)), (Value.slice none 0 0), (eN 0), (Value.slice none 0 0), (Value.bool false), (eN 0), (eN 0)]), (ptr cb 0), (ptr cb 0), (ptr cb 0), (ptr cb 3), (ptr cb 6), (sli db 0 (D * B * Q) (D * B * Q)), (eN (D * B * Q)), (eN (D * B * Q)), (Value.bool (decide ((D * B * Q) < (D * B * Q))))] ++ (zs z 28 10 ++ [(ptr gb 0), (eN D), (eN j), (Value.bool (decide (j < D)))] ++ (zs z 42 13 ++ [ub, (eN lb.length), (eN (i4 + 1)), (Value.bool (decide (i4 < lb.length))), u59, (Value.agg #[(eN ((lb.getD i4 (0, 0)).1)), (eN ((lb.getD i4 (0, 0)).2))]), (ptr Lq.bN 0), (ptr b61 0), (eN ((lb.getD i4 (0, 0)).1)), (ptr b61 1), (eN ((lb.getD i4 (0, 0)).2)), (Value.bool true), (Value.bool false), (ptr Lq.bN 0), (ptr Lq.bN 0), (ptr Lq.bN 11), Lq.ub, (ptr b61 0), (eN ((lb.getD i4 (0, 0)).1)), (ixp Lq.ub ((lb.getD i4 (0, 0)).1)), (sli (Lq.bk.getD ((lb.getD i4 (0, 0)).1) 0) 0 s4.gB s4.gB), (ptr b61 1), (eN ((lb.getD i4 (0, 0)).2)), (ptr (Lq.bk.getD ((lb.getD i4 (0, 0)).1) 0) (((lb.getD i4 (0, 0)).2) * 3)), (ptr (Lq.bk.getD ((lb.getD i4 (0, 0)).1) 0) (((lb.getD i4 (0, 0)).2) * 3 + 2)), (eN (i4 + 1)), undef]))) ?_
  refine wpL.done ?_
  refine then_n ?_
  refine ⟨_, ⟨i4 + 1, (s4.setB ((lb.getD i4 (0, 0)).1) ((lb.getD i4 (0, 0)).2) { s4.bl ((lb.getD i4 (0, 0)).1) ((lb.getD i4 (0, 0)).2) with bad := true })⟩, rfl, rfl, ⟨?_, ?_, ?_, ?_⟩, ?_⟩
  ·
   (try dsimp only)
   all_goals (omega)
  ·
   exact newI_step hS (by omega) hx_.1 hx_.2
  ·
   exact o57
  ·
   exact hN.less (xx_skip xx_id)
  ·
   (try dsimp only)
   all_goals (omega)
 refine wpIn_exit ?_
 refine then_x (then_x (inb_e ?_))
 refine then_n ?_
 refine wpIn_seq ?_
 refine plain ?_
 refine wI (d_move rfl) ?_
 refine wI (d_assign rfl) ?_
 refine wI (d_assign rfl) ?_
 refine wF ([(Value.agg #[(eN D), (eN B), (eN Q)]), ub, (ptr gb 0), undef, (ptr Lq.bN 0), (eN 0), (ptr Lq.bN 0), (z 7), undef, (z 9), (Value.agg #[(eN D), (eN B), (eN Q)]), (Value.bool true), (Value.bool false), (Value.agg #[(eN D), (eN B), (eN Q)]), (Value.agg #[(eN D), (eN B), (eN Q)]), (Value.agg #[(eN D), (eN B), (eN Q), (sli db 0 (D * B * Q) (D * B * Q))]), (Value.agg #[(eN D), (eN B), (eN Q)]), (Value.agg #[(eN D), (eN B), (eN Q), (sli zb 0 (D * B * Q) (D * B * Q))]), (Value.agg #[(eN D), (eN B), (eN Q), (eN D), (eN B), (eN Q), (sli db 0 (D * B * Q) (D * B * Q)), (eN D), (eN B), (eN Q), (sli zb 0 (D * B * Q) (D * B * Q)), (Value.slice none 0 0), (eN 0), (Value.slice none 0 0), (Value.bool false), (eN 0), (eN 0)]), (ptr cb 0), (ptr cb 0), (ptr cb 0), (ptr cb 3), (ptr cb 6), (sli db 0 (D * B * Q) (D * B * Q)), (eN (D * B * Q)), (eN (D * B * Q)), (Value.bool (decide ((D * B * Q) < (D * B * Q))))] ++ (zs z 28 10 ++ [(ptr gb 0), (eN D), (eN j), (Value.bool (decide (j < D)))] ++ (zs z 42 13 ++ [ub, (eN lb.length), (eN i4), (Value.bool (decide (i4 < lb.length)))] ++ (zs z 59 22 ++ [(ptr Lq.bN 0)])))) ?_
 refine wpL.done ?_
 refine then_n ?_
 refine wpIn_ret ?_
 refine leave0 (v := (Value.tuple #[(ptr Lq.bN 0), (eN 0)])) (res2 Try.results13 rfl rfl) ?_
 have hi_ : i4 = lb.length := by omega
 rw [hi_, List.take_length] at hS
 exact ⟨Lq, s4, rfl, ⟨hN, hfr⟩, hS, oW⟩

end Go.Proofs.YtpamdlnobekihaaF
