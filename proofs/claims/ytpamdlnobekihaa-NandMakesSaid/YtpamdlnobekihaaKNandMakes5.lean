/- Part of the proof of the law NandMakes, for all its inputs. -/
import Derived.Test.YtpamdlnobekihaaKNandMakes4
set_option linter.unusedVariables false
set_option linter.unusedSimpArgs false
set_option maxRecDepth 20000
set_option maxHeartbeats 4000000
namespace Go.Proofs.YtpamdlnobekihaaF
open Go Shelf YtpamdlnobekihaaS Ram
theorem newG_ok (D B Q : Nat) (lb : List (Int × Int)) (ub : Value) (W : World) (h2 : Ps No (Seq (kA 2 eQ) lb ub) W) (glb : lb.length ≤ 1048576) (hD : 6 ≤ D ∧ D ≤ 8) (hB : 8 ≤ B ∧ B ≤ 12) (hQ : 4 ≤ Q ∧ Q ≤ 8) :
    CW Try.prog 13 #[(Value.agg #[(eN D), (eN B), (eN Q)]), ub] W (Rt (fun u w => ∃ p, u = .tuple #[p, eN (newE D B lb)] ∧ Only No W w ∧ (newE D B lb = 0 → ∃ L s, p = ptr L.bN 0 ∧ (Nd L s (Old W.heap.size) w ∧ ∀ k, L.S k → W.heap.size ≤ k) ∧ NewJ s D B Q lb))) := by
 have oW : Only No W W := Only.refl _ _
 refine enter (al := [(Value.agg #[(eN D), (eN B), (eN Q)]), ub]) (k := 80) (l := ([(Value.agg #[(eN D), (eN B), (eN Q)]), ub] ++ (us 80))) Try.func13 rfl Try.ntmps13 rfl rfl ?_
 have m1_ : D * B ≤ 8 * 12 := Nat.mul_le_mul hD.2 hB.2
 have m2_ : D * B * Q ≤ 8 * 12 * 8 := Nat.mul_le_mul m1_ hQ.2
 have h2W := h2
 refine wQ (pL ?_)
 refine wO (d_box rfl rfl) ?_
 rintro _ w11 ⟨gb, rfl, g12, a13, o14⟩
 have g_oW_gb : W.heap.size ≤ gb := Nat.le_trans oW.size g12
 replace oW := oW.tail0 o14
 refine wI (d_assign rfl) ?_
 refine wI (d_assign rfl) ?_
 refine wD (tN (wQ (wQ (pL ?_))))
 refine wI (d_loadAg (vs := [(eN D), (eN B), (eN Q)]) ⟨_, Try.underlying23, rfl⟩ s_ti23 rfl a13 rfl rfl) ?_
 refine wO (d_call (xl := [.tmp 10]) (al := [(Value.agg #[(eN D), (eN B), (eN Q)])]) Try.func36 kr rfl rfl rfl (fits_ok D B Q _ oo oo oo)) ?_
 rintro _ w15 ⟨rfl, o16⟩
 replace a13 := a13.step0 o16
 replace oW := oW.tail0 o16
 refine wF ([(Value.agg #[(eN D), (eN B), (eN Q)]), ub, (ptr gb 0), undef, (Value.pointer none), (eN 0), undef, undef, undef, undef, (Value.agg #[(eN D), (eN B), (eN Q)]), vT] ++ (us 70)) ?_
 refine wI (d_not rfl rfl) ?_
 refine wD (tN ?_)
 refine cond_f rfl ?_
 refine wK (tN (wQ ?_))
 refine wp_eq (l' := ([(Value.agg #[(eN D), (eN B), (eN Q)]), ub, (ptr gb 0), undef, (Value.pointer none), (eN 0), undef, undef, undef, undef, (Value.agg #[(eN D), (eN B), (eN Q)]), vT, vF] ++ (us 69))) rfl ?_
 have hX0_ : ∀ k, (Or1 gb (Old W.heap.size)) k → k < w15.heap.size := (lt_or1 a13.lt (fun k t => Nat.lt_of_lt_of_le t oW.size))
 have hO0_ : ∀ k, (Or1 gb No) k → k < w15.heap.size := fun k h => hX0_ k ((or1_mono no_any) k h)
 refine drawnT (O := (Or1 gb No)) (n := 8) 5 [0, 0, 2, 0, 14, 31, 63, 127] [(0, 13), (1, 14), (2, 15), (3, 16), (4, 17), (5, 18), (6, 19), (7, 6)] [(0, 13), (1, 14), (2, 15), (3, 16), (4, 17)] [0, 1, 2, 3, 4] [] (fun i_ => ([RF.is (Or1 gb No) (Value.agg #[(eN D), (eN B), (eN Q)]), RF.is (Or1 gb No) (Value.agg #[(eN D), (eN B), (eN Q)]), RF.mk_ (Or1 gb No) (fun b_ => (Value.agg #[(eN D), (eN B), (eN Q), (sli b_ 0 (D * B * Q) (D * B * Q))])) 36 (List.replicate (D * B * Q) (Value.slice none 0 0)) w15.heap.size hO0_, RF.is (Or1 gb No) (Value.agg #[(eN D), (eN B), (eN Q)]), RF.mk_ (Or1 gb No) (fun b_ => (Value.agg #[(eN D), (eN B), (eN Q), (sli b_ 0 (D * B * Q) (D * B * Q))])) 37 (List.replicate (D * B * Q) (Value.slice none 0 0)) w15.heap.size hO0_] : List (RF (Or1 gb No))).getD i_ (RF.any (Or1 gb No))) (fun _ w_ => Arr 23 gb [(eN D), (eN B), (eN Q)] w_) (fun v17 => ([(Value.agg #[(eN D), (eN B), (eN Q)]), ub, (ptr gb 0), undef, (Value.pointer none), (eN 0), (v17 7), undef, undef, undef, (Value.agg #[(eN D), (eN B), (eN Q)]), vT, vF, (v17 0), (v17 1), (v17 2), (v17 3), (v17 4), (v17 5), (v17 6)] ++ (us 62))) (fun v17 => ([(Value.agg #[(eN D), (eN B), (eN Q)]), ub, (ptr gb 0), undef, (Value.pointer none), (eN 0), undef, undef, undef, undef, (Value.agg #[(eN D), (eN B), (eN Q)]), vT, vF, (v17 0), (v17 1), (v17 2), (v17 3), (v17 4)] ++ (us 64))) s_mx kr rfl (by decide) (by rfl) kr kr kr (by rfl) (fun v_ => by kernel_rfl) (fun v_ => by kernel_rfl) (fun _ => fun w_ w2_ h ho => by have r_a13 := h; exact r_a13.step0 ho) a13 ?_ ?_ ?_
 ·
  refine ls_cons ?_ ?_
  ·
   intro v17 lo hi w_ k_ hO hd _ _ hk_ _ hR hold
   have r_a13 := hR
   clear hd hold
   refine ⟨_, rfl, gd rfl ?_⟩
   exact Does.is (d_loadAg (vs := [(eN D), (eN B), (eN Q)]) ⟨_, Try.underlying23, rfl⟩ s_ti23 rfl r_a13 rfl rfl)
  refine ls_cons ?_ ?_
  ·
   intro v17 lo hi w_ k_ hO hd _ _ hk_ _ hR hold
   have r_a13 := hR
   clear hd hold
   refine ⟨_, rfl, gd rfl ?_⟩
   exact Does.is (d_loadAg (vs := [(eN D), (eN B), (eN Q)]) ⟨_, Try.underlying23, rfl⟩ s_ti23 rfl r_a13 rfl rfl)
  refine ls_cons ?_ ?_
  ·
   intro v17 lo hi w_ k_ hO hd _ _ hk_ _ hR hold
   have r_a13 := hR
   have e1 : v17 1 = (Value.agg #[(eN D), (eN B), (eN Q)]) := hd 1 kr
   clear hd hold
   refine ⟨_, rfl, gd rfl ?_⟩
   refine Does.mono (R := Made 36 w_ (fun b_ => (Value.agg #[(eN D), (eN B), (eN Q), (sli b_ 0 (D * B * Q) (D * B * Q))])) (List.replicate (D * B * Q) (Value.slice none 0 0))) ?_ (fun u w' h => by obtain ⟨b_, rfl, hb_, hA_, hO_⟩ := h; exact ⟨⟨b_, rfl, hA_, Nat.le_trans hO.size hb_⟩, hO_⟩)
   exact d_call (xl := [.tmp 14]) (al := [(Value.agg #[(eN D), (eN B), (eN Q)])]) Try.func37 kr rfl (show ([(v17 1)] : List Value) = [(Value.agg #[(eN D), (eN B), (eN Q)])] from by rw [e1]) rfl (noneD_ok D B Q _ oo oo oo)
  refine ls_cons ?_ ?_
  ·
   intro v17 lo hi w_ k_ hO hd _ _ hk_ _ hR hold
   have r_a13 := hR
   clear hd hold
   refine ⟨_, rfl, gd rfl ?_⟩
   exact Does.is (d_loadAg (vs := [(eN D), (eN B), (eN Q)]) ⟨_, Try.underlying23, rfl⟩ s_ti23 rfl r_a13 rfl rfl)
  refine ls_cons ?_ ?_
  ·
   intro v17 lo hi w_ k_ hO hd _ _ hk_ _ hR hold
   have r_a13 := hR
   have e3 : v17 3 = (Value.agg #[(eN D), (eN B), (eN Q)]) := hd 3 kr
   clear hd hold
   refine ⟨_, rfl, gd rfl ?_⟩
   refine Does.mono (R := Made 37 w_ (fun b_ => (Value.agg #[(eN D), (eN B), (eN Q), (sli b_ 0 (D * B * Q) (D * B * Q))])) (List.replicate (D * B * Q) (Value.slice none 0 0))) ?_ (fun u w' h => by obtain ⟨b_, rfl, hb_, hA_, hO_⟩ := h; exact ⟨⟨b_, rfl, hA_, Nat.le_trans hO.size hb_⟩, hO_⟩)
   exact d_call (xl := [.tmp 16]) (al := [(Value.agg #[(eN D), (eN B), (eN Q)])]) Try.func38 kr rfl (show ([(v17 3)] : List Value) = [(Value.agg #[(eN D), (eN B), (eN Q)])] from by rw [e3]) rfl (noneZ_ok D B Q _ oo oo oo)
  exact ls_nil
 ·
  exact ms_nil
 intro v17 lo_ hi_ w18 o19 hd iv_ hR
 have e0 : v17 0 = (Value.agg #[(eN D), (eN B), (eN Q)]) := hd 0 (by decide)
 have e1 : v17 1 = (Value.agg #[(eN D), (eN B), (eN Q)]) := hd 1 (by decide)
 have e3 : v17 3 = (Value.agg #[(eN D), (eN B), (eN Q)]) := hd 3 (by decide)
 obtain ⟨db, e2, a20, g21⟩ : ∃ b_, v17 2 = (fun b_ => (Value.agg #[(eN D), (eN B), (eN Q), (sli b_ 0 (D * B * Q) (D * B * Q))])) b_ ∧ Arr 36 b_ (List.replicate (D * B * Q) (Value.slice none 0 0)) w18 ∧ w15.heap.size ≤ b_ := hd 2 (by decide)
 dsimp only at e2
 have n_gb_db : gb ≠ db := a13.ne g21
 have g_oW_db : W.heap.size ≤ db := Nat.le_trans oW.size g21
 obtain ⟨zb, e4, a22, g23⟩ : ∃ b_, v17 4 = (fun b_ => (Value.agg #[(eN D), (eN B), (eN Q), (sli b_ 0 (D * B * Q) (D * B * Q))])) b_ ∧ Arr 37 b_ (List.replicate (D * B * Q) (Value.slice none 0 0)) w18 ∧ w15.heap.size ≤ b_ := hd 4 (by decide)
 dsimp only at e4
 have n_gb_zb : gb ≠ zb := a13.ne g23
 have g_oW_zb : W.heap.size ≤ zb := Nat.le_trans oW.size g23
 have n_db_zb : db ≠ zb := arr_ne a20 a22 (by decide)
 clear hd iv_ lo_ hi_
 refine wpL.flat ([(Value.agg #[(eN D), (eN B), (eN Q)]), ub, (ptr gb 0), undef, (Value.pointer none), (eN 0), undef, undef, undef, undef, (Value.agg #[(eN D), (eN B), (eN Q)]), vT, vF, (Value.agg #[(eN D), (eN B), (eN Q)]), (Value.agg #[(eN D), (eN B), (eN Q)]), (Value.agg #[(eN D), (eN B), (eN Q), (sli db 0 (D * B * Q) (D * B * Q))]), (Value.agg #[(eN D), (eN B), (eN Q)]), (Value.agg #[(eN D), (eN B), (eN Q), (sli zb 0 (D * B * Q) (D * B * Q))])] ++ (us 64)) (by rw [e0, e1, e3, e2, e4] <;> rfl) ?_
 clear e0 e1 e3 e2 e4
 replace a13 : Arr 23 gb [(eN D), (eN B), (eN Q)] w18 := hR
 clear hR
 replace oW := oW.tail o19 (tl_new g_oW_gb tl_no)
 refine wI (d_buildS (pl := [(0, 3), (3, 4), (7, 4), (11, 1), (12, 1), (13, 1), (14, 1), (15, 1), (16, 1)]) (zs := [(eN 0), (eN 0), (eN 0), (eN 0), (eN 0), (eN 0), (Value.slice none 0 0), (eN 0), (eN 0), (eN 0), (Value.slice none 0 0), (Value.slice none 0 0), (eN 0), (Value.slice none 0 0), vF, (eN 0), (eN 0)]) (cs := [(eN D), (eN B), (eN Q), (eN D), (eN B), (eN Q), (sli db 0 (D * B * Q) (D * B * Q)), (eN D), (eN B), (eN Q), (sli zb 0 (D * B * Q) (D * B * Q)), (Value.slice none 0 0), (eN 0), (Value.slice none 0 0), vF, (eN 0), (eN 0)]) Try.underlying73 s_ti73 ⟨_, _, _, _, rfl, s_ti23, ⟨_, _, _, _, rfl, s_ti65, ⟨_, _, _, _, rfl, s_ti69, ⟨_, _, _, _, rfl, s_ti71, ⟨_, _, _, _, rfl, s_ti3, ⟨_, _, _, _, rfl, s_ti36, ⟨_, _, _, _, rfl, s_ti4, ⟨_, _, _, _, rfl, s_ti3, ⟨_, _, _, _, rfl, s_ti3, rfl⟩⟩⟩⟩⟩⟩⟩⟩⟩ rfl (parts_cons (vs := [(eN D), (eN B), (eN Q)]) (cells_of (v := (Value.agg #[(eN D), (eN B), (eN Q)])) rfl rfl) (parts_cons (vs := [(eN D), (eN B), (eN Q), (sli db 0 (D * B * Q) (D * B * Q))]) (cells_of (v := (Value.agg #[(eN D), (eN B), (eN Q), (sli db 0 (D * B * Q) (D * B * Q))])) rfl rfl) (parts_cons (vs := [(eN D), (eN B), (eN Q), (sli zb 0 (D * B * Q) (D * B * Q))]) (cells_of (v := (Value.agg #[(eN D), (eN B), (eN Q), (sli zb 0 (D * B * Q) (D * B * Q))])) rfl rfl) parts_nil))) rfl) ?_
 refine wO (d_box rfl rfl) ?_
 rintro _ w24 ⟨cb, rfl, g25, a26, o27⟩
 have n_gb_cb : gb ≠ cb := a13.ne g25
 have n_db_cb : db ≠ cb := a20.ne g25
 have n_zb_cb : zb ≠ cb := a22.ne g25
 have g_oW_cb : W.heap.size ≤ cb := Nat.le_trans oW.size g25
 replace a13 := a13.step0 o27
 replace a20 := a20.step0 o27
 replace a22 := a22.step0 o27
 replace oW := oW.tail0 o27
 refine wI (d_assign rfl) ?_
 refine wF ([(Value.agg #[(eN D), (eN B), (eN Q)]), ub, (ptr gb 0), undef, (Value.pointer none), (eN 0), (ptr cb 0), undef, undef, undef, (Value.agg #[(eN D), (eN B), (eN Q)]), vT, vF, (Value.agg #[(eN D), (eN B), (eN Q)]), (Value.agg #[(eN D), (eN B), (eN Q)]), (Value.agg #[(eN D), (eN B), (eN Q), (sli db 0 (D * B * Q) (D * B * Q))]), (Value.agg #[(eN D), (eN B), (eN Q)]), (Value.agg #[(eN D), (eN B), (eN Q), (sli zb 0 (D * B * Q) (D * B * Q))]), (Value.agg #[(eN D), (eN B), (eN Q), (eN D), (eN B), (eN Q), (sli db 0 (D * B * Q) (D * B * Q)), (eN D), (eN B), (eN Q), (sli zb 0 (D * B * Q) (D * B * Q)), (Value.slice none 0 0), (eN 0), (Value.slice none 0 0), vF, (eN 0), (eN 0)]), (ptr cb 0)] ++ (us 62)) ?_
 refine wD (tN (wQ (wQ (pL ?_))))
 refine wI (d_move rfl) ?_
 refine wI (d_nilCheck (b := cb) (o := 0) rfl) ?_
 refine wI (d_fieldAddr (j := 3) Try.underlying73 rfl s_ti65 (by decide) rfl rfl) ?_
 refine wI (d_fieldAddr (j := 6) Try.underlying65 rfl s_ti63 (by decide) rfl rfl) ?_
 refine wI (d_load (v := (sli db 0 (D * B * Q) (D * B * Q))) ⟨_, Try.underlying63, rfl⟩ rfl a26 rfl) ?_
 refine wF ([(Value.agg #[(eN D), (eN B), (eN Q)]), ub, (ptr gb 0), undef, (Value.pointer none), (eN 0), (ptr cb 0), undef, undef, undef, (Value.agg #[(eN D), (eN B), (eN Q)]), vT, vF, (Value.agg #[(eN D), (eN B), (eN Q)]), (Value.agg #[(eN D), (eN B), (eN Q)]), (Value.agg #[(eN D), (eN B), (eN Q), (sli db 0 (D * B * Q) (D * B * Q))]), (Value.agg #[(eN D), (eN B), (eN Q)]), (Value.agg #[(eN D), (eN B), (eN Q), (sli zb 0 (D * B * Q) (D * B * Q))]), (Value.agg #[(eN D), (eN B), (eN Q), (eN D), (eN B), (eN Q), (sli db 0 (D * B * Q) (D * B * Q)), (eN D), (eN B), (eN Q), (sli zb 0 (D * B * Q) (D * B * Q)), (Value.slice none 0 0), (eN 0), (Value.slice none 0 0), vF, (eN 0), (eN 0)]), (ptr cb 0), (ptr cb 0), (ptr cb 0), (ptr cb 3), (ptr cb 6), (sli db 0 (D * B * Q) (D * B * Q))] ++ (us 57)) ?_
 refine wI (d_len rfl Try.underlying63 rfl) ?_
 refine wI (d_move rfl) ?_
 refine wD (tN (wB ?_))
 replace a20 : Arr 36 db ((List.replicate (D * B * Q) (Value.slice none 0 0)).map eV) w24 := by rw [map_eV]; exact a20
 have l_db : (List.replicate (D * B * Q) (Value.slice none 0 0)).length = D * B * Q := List.length_replicate
 refine loop2 (fun (s_ : (Nat) × (List Value)) => match s_ with | ⟨i, vd⟩ => fun (z : Nat → Value) => (([(Value.agg #[(eN D), (eN B), (eN Q)]), ub, (ptr gb 0), undef, (Value.pointer none), (eN 0), (ptr cb 0), (z 7), undef, undef, (Value.agg #[(eN D), (eN B), (eN Q)]), vT, vF, (Value.agg #[(eN D), (eN B), (eN Q)]), (Value.agg #[(eN D), (eN B), (eN Q)]), (Value.agg #[(eN D), (eN B), (eN Q), (sli db 0 (D * B * Q) (D * B * Q))]), (Value.agg #[(eN D), (eN B), (eN Q)]), (Value.agg #[(eN D), (eN B), (eN Q), (sli zb 0 (D * B * Q) (D * B * Q))]), (Value.agg #[(eN D), (eN B), (eN Q), (eN D), (eN B), (eN Q), (sli db 0 (D * B * Q) (D * B * Q)), (eN D), (eN B), (eN Q), (sli zb 0 (D * B * Q) (D * B * Q)), (Value.slice none 0 0), (eN 0), (Value.slice none 0 0), vF, (eN 0), (eN 0)]), (ptr cb 0), (ptr cb 0), (ptr cb 0), (ptr cb 3), (ptr cb 6), (sli db 0 (D * B * Q) (D * B * Q)), (eN (D * B * Q)), (eN i)] ++ (zs z 27 11 ++ (us 44))) : List Value)) (fun (s_ : (Nat) × (List Value)) => match s_ with | ⟨i, vd⟩ => fun (w_ : World) => (i ≤ D * B * Q) ∧ (Ps (Or1 cb (Or1 zb (Or1 db (Or1 gb (Old W.heap.size))))) (Fam kB i (fun _ => onesW) vd) w_) ∧ Only (Or1 cb (Or1 zb (Or1 db (Or1 gb No)))) w24 w_ ∧ Arr 23 gb [(eN D), (eN B), (eN Q)] w_ ∧ vd.length = D * B * Q ∧ Arr 36 db (vd.map eV) w_ ∧ Arr 37 zb (List.replicate (D * B * Q) (Value.slice none 0 0)) w_ ∧ Arr 73 cb [(eN D), (eN B), (eN Q), (eN D), (eN B), (eN Q), (sli db 0 (D * B * Q) (D * B * Q)), (eN D), (eN B), (eN Q), (sli zb 0 (D * B * Q) (D * B * Q)), (Value.slice none 0 0), (eN 0), (Value.slice none 0 0), vF, (eN 0), (eN 0)] w_) (fun (s_ : (Nat) × (List Value)) => match s_ with | ⟨i, vd⟩ => D * B * Q - i) ⟨0, (List.replicate (D * B * Q) (Value.slice none 0 0))⟩ kr ?_ ?_
 ·
  refine ⟨?_, ?_, ?_, ?_, ?_, ?_, ?_, ?_⟩
  ·
   exact Nat.zero_le _
  ·
   exact fun w' _ k hk => absurd hk (Nat.not_lt_zero k)
  ·
   exact Only.refl _ _
  ·
   exact a13
  ·
   exact l_db
  ·
   exact a20
  ·
   exact a22
  ·
   exact a26
 rintro ⟨i, vd⟩ z w29 ⟨hi, hF, o28, a13, l_db, a20, a22, a26⟩
 (try dsimp only)
 replace oW := oW.tail o28 (tl_new g_oW_cb (tl_new g_oW_zb (tl_new g_oW_db (tl_new g_oW_gb tl_no))))
 refine wQ (pL ?_)
 refine wI (n_lss (a := i) (b := (D * B * Q)) rfl rfl rfl) ?_
 refine wD (tN (wQ ?_))
 refine cond_if rfl (fun c30 => ?_) (fun c30 => ?_)
 ·
  refine wK (tN (wQ (wB (wQ (pL ?_)))))
  refine wI (d_move rfl) ?_
  refine wI (d_assign rfl) ?_
  refine wD (tN ?_)
  refine wp_eq (l' := ([(Value.agg #[(eN D), (eN B), (eN Q)]), ub, (ptr gb 0), undef, (Value.pointer none), (eN 0), (ptr cb 0), (eN i), undef, undef, (Value.agg #[(eN D), (eN B), (eN Q)]), vT, vF, (Value.agg #[(eN D), (eN B), (eN Q)]), (Value.agg #[(eN D), (eN B), (eN Q)]), (Value.agg #[(eN D), (eN B), (eN Q), (sli db 0 (D * B * Q) (D * B * Q))]), (Value.agg #[(eN D), (eN B), (eN Q)]), (Value.agg #[(eN D), (eN B), (eN Q), (sli zb 0 (D * B * Q) (D * B * Q))]), (Value.agg #[(eN D), (eN B), (eN Q), (eN D), (eN B), (eN Q), (sli db 0 (D * B * Q) (D * B * Q)), (eN D), (eN B), (eN Q), (sli zb 0 (D * B * Q) (D * B * Q)), (Value.slice none 0 0), (eN 0), (Value.slice none 0 0), vF, (eN 0), (eN 0)]), (ptr cb 0), (ptr cb 0), (ptr cb 0), (ptr cb 3), (ptr cb 6), (sli db 0 (D * B * Q) (D * B * Q)), (eN (D * B * Q)), (eN i), (Value.bool (decide (i < (D * B * Q)))), (eN i)] ++ (zs z 29 9 ++ (us 44)))) rfl ?_
  refine drawnT (O := (Or1 cb (Or1 zb (Or1 db (Or1 gb No))))) (n := 9) 7 [0, 1, 3, 7, 15, 0, 0, 127, 255] [(0, 29), (1, 30), (2, 31), (3, 32), (4, 33), (5, 34), (6, 35), (7, 36)] [(0, 29), (1, 30), (2, 31), (3, 32), (4, 33), (5, 34), (6, 35)] [0, 1, 2, 3, 4, 5, 6] [] (fun i_ => ([RF.is (Or1 cb (Or1 zb (Or1 db (Or1 gb No)))) (ptr cb 0), RF.is (Or1 cb (Or1 zb (Or1 db (Or1 gb No)))) (ptr cb 0), RF.is (Or1 cb (Or1 zb (Or1 db (Or1 gb No)))) (ptr cb 3), RF.is (Or1 cb (Or1 zb (Or1 db (Or1 gb No)))) (ptr cb 6), RF.is (Or1 cb (Or1 zb (Or1 db (Or1 gb No)))) (sli db 0 (D * B * Q) (D * B * Q)), RF.is (Or1 cb (Or1 zb (Or1 db (Or1 gb No)))) (eN i), RF.ps (Or1 cb (Or1 zb (Or1 db (Or1 gb No)))) (Or1 cb (Or1 zb (Or1 db (Or1 gb (Old W.heap.size))))) (Seq kB onesW) (or1_mono (or1_mono (or1_mono (or1_mono no_any))))] : List (RF (Or1 cb (Or1 zb (Or1 db (Or1 gb No)))))).getD i_ (RF.any (Or1 cb (Or1 zb (Or1 db (Or1 gb No)))))) (fun _ w_ => Arr 23 gb [(eN D), (eN B), (eN Q)] w_ ∧ Arr 36 db (vd.map eV) w_ ∧ Arr 37 zb (List.replicate (D * B * Q) (Value.slice none 0 0)) w_ ∧ Arr 73 cb [(eN D), (eN B), (eN Q), (eN D), (eN B), (eN Q), (sli db 0 (D * B * Q) (D * B * Q)), (eN D), (eN B), (eN Q), (sli zb 0 (D * B * Q) (D * B * Q)), (Value.slice none 0 0), (eN 0), (Value.slice none 0 0), vF, (eN 0), (eN 0)] w_) (fun v31 => ([(Value.agg #[(eN D), (eN B), (eN Q)]), ub, (ptr gb 0), undef, (Value.pointer none), (eN 0), (ptr cb 0), (eN i), undef, undef, (Value.agg #[(eN D), (eN B), (eN Q)]), vT, vF, (Value.agg #[(eN D), (eN B), (eN Q)]), (Value.agg #[(eN D), (eN B), (eN Q)]), (Value.agg #[(eN D), (eN B), (eN Q), (sli db 0 (D * B * Q) (D * B * Q))]), (Value.agg #[(eN D), (eN B), (eN Q)]), (Value.agg #[(eN D), (eN B), (eN Q), (sli zb 0 (D * B * Q) (D * B * Q))]), (Value.agg #[(eN D), (eN B), (eN Q), (eN D), (eN B), (eN Q), (sli db 0 (D * B * Q) (D * B * Q)), (eN D), (eN B), (eN Q), (sli zb 0 (D * B * Q) (D * B * Q)), (Value.slice none 0 0), (eN 0), (Value.slice none 0 0), vF, (eN 0), (eN 0)]), (ptr cb 0), (ptr cb 0), (ptr cb 0), (ptr cb 3), (ptr cb 6), (sli db 0 (D * B * Q) (D * B * Q)), (eN (D * B * Q)), (eN i), (Value.bool (decide (i < (D * B * Q)))), (eN i), (v31 0), (v31 1), (v31 2), (v31 3), (v31 4), (v31 5), (v31 6), (v31 7), (z 37)] ++ (us 44))) (fun v31 => ([(Value.agg #[(eN D), (eN B), (eN Q)]), ub, (ptr gb 0), undef, (Value.pointer none), (eN 0), (ptr cb 0), (eN i), undef, undef, (Value.agg #[(eN D), (eN B), (eN Q)]), vT, vF, (Value.agg #[(eN D), (eN B), (eN Q)]), (Value.agg #[(eN D), (eN B), (eN Q)]), (Value.agg #[(eN D), (eN B), (eN Q), (sli db 0 (D * B * Q) (D * B * Q))]), (Value.agg #[(eN D), (eN B), (eN Q)]), (Value.agg #[(eN D), (eN B), (eN Q), (sli zb 0 (D * B * Q) (D * B * Q))]), (Value.agg #[(eN D), (eN B), (eN Q), (eN D), (eN B), (eN Q), (sli db 0 (D * B * Q) (D * B * Q)), (eN D), (eN B), (eN Q), (sli zb 0 (D * B * Q) (D * B * Q)), (Value.slice none 0 0), (eN 0), (Value.slice none 0 0), vF, (eN 0), (eN 0)]), (ptr cb 0), (ptr cb 0), (ptr cb 0), (ptr cb 3), (ptr cb 6), (sli db 0 (D * B * Q) (D * B * Q)), (eN (D * B * Q)), (eN i), (Value.bool (decide (i < (D * B * Q)))), (eN i), (v31 0), (v31 1), (v31 2), (v31 3), (v31 4), (v31 5), (v31 6), (z 36), (z 37)] ++ (us 44))) s_mx kr rfl (by decide) (by rfl) kr kr kr (by rfl) (fun v_ => by kernel_rfl) (fun v_ => by kernel_rfl) (fun _ => fun w_ w2_ h ho => by obtain ⟨r_a13, r_a20, r_a22, r_a26⟩ := h; exact ⟨r_a13.step0 ho, r_a20.step0 ho, r_a22.step0 ho, r_a26.step0 ho⟩) ⟨a13, a20, a22, a26⟩ ?_ ?_ ?_
  ·
   refine ls_cons ?_ ?_
   ·
    intro v31 lo hi w_ k_ hO hd _ _ hk_ _ hR hold
    obtain ⟨r_a13, r_a20, r_a22, r_a26⟩ := hR
    clear hd hold
    refine ⟨_, rfl, gd rfl ?_⟩
    exact Does.is (d_move rfl)
   refine ls_cons ?_ ?_
   ·
    intro v31 lo hi w_ k_ hO hd _ _ hk_ _ hR hold
    obtain ⟨r_a13, r_a20, r_a22, r_a26⟩ := hR
    have e0 : v31 0 = (ptr cb 0) := hd 0 kr
    clear hd hold
    refine ⟨_, rfl, gd rfl ?_⟩
    exact Does.is (d_nilCheck (b := cb) (o := 0) e0)
   refine ls_cons ?_ ?_
   ·
    intro v31 lo hi w_ k_ hO hd _ _ hk_ _ hR hold
    obtain ⟨r_a13, r_a20, r_a22, r_a26⟩ := hR
    have e1 : v31 1 = (ptr cb 0) := hd 1 kr
    clear hd hold
    refine ⟨_, rfl, gd rfl ?_⟩
    exact Does.is (d_fieldAddr (j := 3) Try.underlying73 rfl s_ti65 (by decide) e1 rfl)
   refine ls_cons ?_ ?_
   ·
    intro v31 lo hi w_ k_ hO hd _ _ hk_ _ hR hold
    obtain ⟨r_a13, r_a20, r_a22, r_a26⟩ := hR
    have e2 : v31 2 = (ptr cb 3) := hd 2 kr
    clear hd hold
    refine ⟨_, rfl, gd rfl ?_⟩
    exact Does.is (d_fieldAddr (j := 6) Try.underlying65 rfl s_ti63 (by decide) e2 rfl)
   refine ls_cons ?_ ?_
   ·
    intro v31 lo hi w_ k_ hO hd _ _ hk_ _ hR hold
    obtain ⟨r_a13, r_a20, r_a22, r_a26⟩ := hR
    have e3 : v31 3 = (ptr cb 6) := hd 3 kr
    clear hd hold
    refine ⟨_, rfl, gd rfl ?_⟩
    exact Does.is (d_load (v := (sli db 0 (D * B * Q) (D * B * Q))) ⟨_, Try.underlying63, rfl⟩ e3 r_a26 rfl)
   refine ls_cons ?_ ?_
   ·
    intro v31 lo hi w_ k_ hO hd _ _ hk_ _ hR hold
    obtain ⟨r_a13, r_a20, r_a22, r_a26⟩ := hR
    clear hd hold
    refine ⟨_, rfl, gd rfl ?_⟩
    exact Does.is (d_move rfl)
   refine ls_cons ?_ ?_
   ·
    intro v31 lo hi w_ k_ hO hd _ _ hk_ _ hR hold
    obtain ⟨r_a13, r_a20, r_a22, r_a26⟩ := hR
    clear hd hold
    refine ⟨_, rfl, gd rfl ?_⟩
    refine Does.mono (R := ROw 5 eB onesW w_) ?_ (fun u w' h => ⟨(h.ps).1.less (or1_old r_a26.lt (or1_old r_a22.lt (or1_old r_a20.lt (or1_old r_a13.lt (old_old (Nat.le_trans oW.size hO.size)))))), (h.ps).2⟩)
    exact d_call (xl := []) (al := []) Try.func39 kr rfl rfl rfl (blank_ok _)
   exact ls_nil
  ·
   exact ms_nil
  intro v31 lo_ hi_ w32 o33 hd iv_ hR
  have e0 : v31 0 = (ptr cb 0) := hd 0 (by decide)
  have e1 : v31 1 = (ptr cb 0) := hd 1 (by decide)
  have e2 : v31 2 = (ptr cb 3) := hd 2 (by decide)
  have e3 : v31 3 = (ptr cb 6) := hd 3 (by decide)
  have e4 : v31 4 = (sli db 0 (D * B * Q) (D * B * Q)) := hd 4 (by decide)
  have e5 : v31 5 = (eN i) := hd 5 (by decide)
  have f_v31_6 : Ps (Or1 cb (Or1 zb (Or1 db (Or1 gb (Old W.heap.size))))) (Seq kB onesW (v31 6)) w32 := hd 6 (by decide)
  clear hd iv_ lo_ hi_
  refine wpL.flat ([(Value.agg #[(eN D), (eN B), (eN Q)]), ub, (ptr gb 0), undef, (Value.pointer none), (eN 0), (ptr cb 0), (eN i), undef, undef, (Value.agg #[(eN D), (eN B), (eN Q)]), vT, vF, (Value.agg #[(eN D), (eN B), (eN Q)]), (Value.agg #[(eN D), (eN B), (eN Q)]), (Value.agg #[(eN D), (eN B), (eN Q), (sli db 0 (D * B * Q) (D * B * Q))]), (Value.agg #[(eN D), (eN B), (eN Q)]), (Value.agg #[(eN D), (eN B), (eN Q), (sli zb 0 (D * B * Q) (D * B * Q))]), (Value.agg #[(eN D), (eN B), (eN Q), (eN D), (eN B), (eN Q), (sli db 0 (D * B * Q) (D * B * Q)), (eN D), (eN B), (eN Q), (sli zb 0 (D * B * Q) (D * B * Q)), (Value.slice none 0 0), (eN 0), (Value.slice none 0 0), vF, (eN 0), (eN 0)]), (ptr cb 0), (ptr cb 0), (ptr cb 0), (ptr cb 3), (ptr cb 6), (sli db 0 (D * B * Q) (D * B * Q)), (eN (D * B * Q)), (eN i), (Value.bool (decide (i < (D * B * Q)))), (eN i), (ptr cb 0), (ptr cb 0), (ptr cb 3), (ptr cb 6), (sli db 0 (D * B * Q) (D * B * Q)), (eN i), (v31 6), (z 36), (z 37)] ++ (us 44)) (by rw [e0, e1, e2, e3, e4, e5] <;> rfl) ?_
  clear e0 e1 e2 e3 e4 e5
  replace hF := hF.step o33 (or1_mono (or1_mono (or1_mono (or1_mono no_any))))
  obtain ⟨xr_a13, xr_a20, xr_a22, xr_a26⟩ := hR
  replace a13 : Arr 23 gb [(eN D), (eN B), (eN Q)] w32 := xr_a13
  replace a20 : Arr 36 db (vd.map eV) w32 := xr_a20
  replace a22 : Arr 37 zb (List.replicate (D * B * Q) (Value.slice none 0 0)) w32 := xr_a22
  replace a26 : Arr 73 cb [(eN D), (eN B), (eN Q), (eN D), (eN B), (eN Q), (sli db 0 (D * B * Q) (D * B * Q)), (eN D), (eN B), (eN Q), (sli zb 0 (D * B * Q) (D * B * Q)), (Value.slice none 0 0), (eN 0), (Value.slice none 0 0), vF, (eN 0), (eN 0)] w32 := xr_a26
  clear xr_a13 xr_a20 xr_a22 xr_a26
  replace oW := oW.tail o33 (tl_new g_oW_cb (tl_new g_oW_zb (tl_new g_oW_db (tl_new g_oW_gb tl_no))))
  replace o28 := o28.tail o33 (tl_in in1 (tl_in (in2 in1) (tl_in (in2 (in2 in1)) (tl_in (in2 (in2 (in2 in1))) tl_no))))
  refine wI (d_index1 (n := (D * B * Q)) (i := i) Try.underlying63 s_ti36 rfl (show _ = Value.int _ (i : Int) from rfl) oo) ?_
  refine wO (d_store (b := db) (i := i) (v := (v31 6)) s_ti36 rfl rfl (Seq.one f_v31_6) a20 (by rw [List.length_map, l_db]; omega) (m_put vd i (v31 6) eV)) ?_
  rintro _ w34 ⟨a35, o36⟩
  replace hF := hF.stepb o36 (in2 (in2 in1))
  replace f_v31_6 := f_v31_6.stepb o36 (in2 (in2 in1))
  replace a13 := a13.step o36 (fun e => absurd e n_gb_db)
  replace a22 := a22.step o36 (fun e => absurd e (Ne.symm n_db_zb))
  replace a26 := a26.step o36 (fun e => absurd e (Ne.symm n_db_cb))
  replace oW := oW.tailb o36 g_oW_db
  replace o28 := o28.tail o36 (fun k _ e => by have : k = db := e; rw [this]; exact (in2 (in2 in1)))
  replace l_db : (vd.set i (v31 6) : List Value).length = D * B * Q := (List.length_set ..).trans l_db
  refine wF ([(Value.agg #[(eN D), (eN B), (eN Q)]), ub, (ptr gb 0), undef, (Value.pointer none), (eN 0), (ptr cb 0), (eN i), undef, undef, (Value.agg #[(eN D), (eN B), (eN Q)]), vT, vF, (Value.agg #[(eN D), (eN B), (eN Q)]), (Value.agg #[(eN D), (eN B), (eN Q)]), (Value.agg #[(eN D), (eN B), (eN Q), (sli db 0 (D * B * Q) (D * B * Q))]), (Value.agg #[(eN D), (eN B), (eN Q)]), (Value.agg #[(eN D), (eN B), (eN Q), (sli zb 0 (D * B * Q) (D * B * Q))]), (Value.agg #[(eN D), (eN B), (eN Q), (eN D), (eN B), (eN Q), (sli db 0 (D * B * Q) (D * B * Q)), (eN D), (eN B), (eN Q), (sli zb 0 (D * B * Q) (D * B * Q)), (Value.slice none 0 0), (eN 0), (Value.slice none 0 0), vF, (eN 0), (eN 0)]), (ptr cb 0), (ptr cb 0), (ptr cb 0), (ptr cb 3), (ptr cb 6), (sli db 0 (D * B * Q) (D * B * Q)), (eN (D * B * Q)), (eN i), (Value.bool (decide (i < (D * B * Q)))), (eN i), (ptr cb 0), (ptr cb 0), (ptr cb 3), (ptr cb 6), (sli db 0 (D * B * Q) (D * B * Q)), (eN i), (v31 6), (ptr db i), (z 37)] ++ (us 44)) ?_
  refine wD ?_
  refine inb_n (tN ?_)
  refine pL ?_
  refine wI (n_add (a := i) (b := 1) rfl rfl oo) ?_
  refine wI (d_move rfl) ?_
  refine wD (tN ?_)
  refine ⟨_, ⟨i + 1, vd.set i (v31 6)⟩, rfl, kr, ⟨?_, ?_, ?_, ?_, ?_, ?_, ?_, ?_⟩, ?_⟩
  ·
   (try dsimp only)
   all_goals (omega)
  ·
   (try dsimp only)
   all_goals (exact fam_next hF f_v31_6 (by rw [List.length_set] at l_db; omega))
  ·
   exact o28
  ·
   exact a13
  ·
   exact l_db
  ·
   exact a35
  ·
   exact a22
  ·
   exact a26
  ·
   (try dsimp only)
   all_goals (omega)
 refine wpIn_exit ?_
 refine then_x (then_x (inb_e ?_))
 refine tN (wQ (wQ ?_))
 obtain rfl : i = D * B * Q := by omega
 refine wp_eq (l' := ([(Value.agg #[(eN D), (eN B), (eN Q)]), ub, (ptr gb 0), undef, (Value.pointer none), (eN 0), (ptr cb 0), (z 7), undef, undef, (Value.agg #[(eN D), (eN B), (eN Q)]), vT, vF, (Value.agg #[(eN D), (eN B), (eN Q)]), (Value.agg #[(eN D), (eN B), (eN Q)]), (Value.agg #[(eN D), (eN B), (eN Q), (sli db 0 (D * B * Q) (D * B * Q))]), (Value.agg #[(eN D), (eN B), (eN Q)]), (Value.agg #[(eN D), (eN B), (eN Q), (sli zb 0 (D * B * Q) (D * B * Q))]), (Value.agg #[(eN D), (eN B), (eN Q), (eN D), (eN B), (eN Q), (sli db 0 (D * B * Q) (D * B * Q)), (eN D), (eN B), (eN Q), (sli zb 0 (D * B * Q) (D * B * Q)), (Value.slice none 0 0), (eN 0), (Value.slice none 0 0), vF, (eN 0), (eN 0)]), (ptr cb 0), (ptr cb 0), (ptr cb 0), (ptr cb 3), (ptr cb 6), (sli db 0 (D * B * Q) (D * B * Q)), (eN (D * B * Q)), (eN (D * B * Q)), (Value.bool (decide ((D * B * Q) < (D * B * Q))))] ++ (zs z 28 10 ++ (us 44)))) rfl ?_
 refine pL ?_
 refine wI (d_fieldAddr (j := 0) Try.underlying23 rfl s_ti3 (by decide) rfl rfl) ?_
 refine wI (d_load (v := (eN D)) ⟨_, Try.underlying3, rfl⟩ rfl a13 rfl) ?_
 refine wI (d_move rfl) ?_
 refine wD (tN (wB ?_))
 have a37 : Ow 75 1 none (Value.slice none 0 0) ([] : List (Nat)).length (([] : List (Nat)).map (eK B)) w29 := Ow.nil _ _ _
 have nq_bk_gb : ∀ x, (none : Option Nat) = some x → ¬ x = gb := fun x e => by cases e
 have nq_bk_db : ∀ x, (none : Option Nat) = some x → ¬ x = db := fun x e => by cases e
 have nq_bk_zb : ∀ x, (none : Option Nat) = some x → ¬ x = zb := fun x e => by cases e
 have nq_bk_cb : ∀ x, (none : Option Nat) = some x → ¬ x = cb := fun x e => by cases e
 have q_oW_bk : Fr none none W.heap.size := Fr.none
 have q_o28_bk : Fr none none w24.heap.size := Fr.none
 replace hF := hF.qnone
 have h_lt_gb := a13.lt
 have h_lt_db := a20.lt
 have h_lt_zb := a22.lt
 have h_lt_cb := a26.lt
 have h_lts_bk := a37.lts
 refine loop2 (fun (s_ : (Nat) × (List Nat) × (Option Nat) × (Value)) => match s_ with | ⟨j, bk, bo_bk, u_bk⟩ => fun (z : Nat → Value) => (([(Value.agg #[(eN D), (eN B), (eN Q)]), ub, (ptr gb 0), undef, (Value.pointer none), (eN 0), (ptr cb 0), (z 7), undef, undef, (Value.agg #[(eN D), (eN B), (eN Q)]), vT, vF, (Value.agg #[(eN D), (eN B), (eN Q)]), (Value.agg #[(eN D), (eN B), (eN Q)]), (Value.agg #[(eN D), (eN B), (eN Q), (sli db 0 (D * B * Q) (D * B * Q))]), (Value.agg #[(eN D), (eN B), (eN Q)]), (Value.agg #[(eN D), (eN B), (eN Q), (sli zb 0 (D * B * Q) (D * B * Q))]), (Value.agg #[(eN D), (eN B), (eN Q), (eN D), (eN B), (eN Q), (sli db 0 (D * B * Q) (D * B * Q)), (eN D), (eN B), (eN Q), (sli zb 0 (D * B * Q) (D * B * Q)), (Value.slice none 0 0), (eN 0), (Value.slice none 0 0), vF, (eN 0), (eN 0)]), (ptr cb 0), (ptr cb 0), (ptr cb 0), (ptr cb 3), (ptr cb 6), (sli db 0 (D * B * Q) (D * B * Q)), (eN (D * B * Q)), (eN (D * B * Q)), (Value.bool (decide ((D * B * Q) < (D * B * Q))))] ++ (zs z 28 10 ++ [(ptr gb 0), (eN D), (eN j)] ++ (zs z 41 14 ++ (us 27)))) : List Value)) (fun (s_ : (Nat) × (List Nat) × (Option Nat) × (Value)) => match s_ with | ⟨j, bk, bo_bk, u_bk⟩ => fun (w_ : World) => (j ≤ D) ∧ (bk.length = j) ∧ (bk.Nodup) ∧ (∀ x ∈ bk, x ≠ cb ∧ x ≠ db ∧ x ≠ zb ∧ W.heap.size ≤ x ∧ x < w_.heap.size) ∧ (∀ x, bo_bk = some x → x ∉ bk) ∧ (Ps (Orq bo_bk (Or1 cb (Or1 zb (Or1 db (Or1 gb (Old W.heap.size)))))) (fun w => ∀ q, q < j → Arr 77 (bk.getD q 0) (stC B (fun _ => St0)) w) w_) ∧ (Ps (Orq bo_bk (Or1 cb (Or1 zb (Or1 db (Or1 gb (fun k => k ∈ bk ∨ Old W.heap.size k)))))) (Fam kB (D * B * Q) (fun _ => onesW) vd) w_) ∧ Only (Orq none (Or1 cb (Or1 zb (Or1 db (Or1 gb No))))) w29 w_ ∧ Arr 23 gb [(eN D), (eN B), (eN Q)] w_ ∧ Arr 36 db (vd.map eV) w_ ∧ Arr 37 zb (List.replicate (D * B * Q) (Value.slice none 0 0)) w_ ∧ Arr 73 cb [(eN D), (eN B), (eN Q), (eN D), (eN B), (eN Q), (sli db 0 (D * B * Q) (D * B * Q)), (eN D), (eN B), (eN Q), (sli zb 0 (D * B * Q) (D * B * Q)), u_bk, (eN 0), (Value.slice none 0 0), vF, (eN 0), (eN 0)] w_ ∧ Ow 75 1 bo_bk u_bk (bk).length ((bk).map (eK B)) w_ ∧ Fr bo_bk none w29.heap.size) (fun (s_ : (Nat) × (List Nat) × (Option Nat) × (Value)) => match s_ with | ⟨j, bk, bo_bk, u_bk⟩ => D - j) ⟨0, [], none, (Value.slice none 0 0)⟩ kr ?_ ?_
 ·
  refine ⟨?_, ?_, ?_, ?_, ?_, ?_, ?_, ?_, ?_, ?_, ?_, ?_, ?_, ?_⟩
  ·
   exact Nat.zero_le _
  ·
   exact rfl
  ·
   exact List.nodup_nil
  ·
   exact fun x hx => by cases hx
  ·
   exact fun x hx => by cases hx
  ·
   exact fun w' _ q hq => absurd hq (Nat.not_lt_zero q)
  ·
   (try dsimp only)
   all_goals (exact hF.less (by intro k _ h; simp only [Or1, Orq] at h ⊢; grind))
  ·
   exact Only.refl _ _
  ·
   exact a13
  ·
   exact a20
  ·
   exact a22
  ·
   exact a26
  ·
   exact a37
  ·
   exact Fr.same
 rintro ⟨j, bk, bo_bk, u_bk⟩ z w39 ⟨hi2, hl, hn, hb, hbo, hK, hG, o38, a13, a20, a22, a26, a37, qq_bk⟩
 (try dsimp only)
 have tq_oW := oW.size
 replace oW := oW.tail o38 (tl_q q_oW_bk (fun _ e => by cases e) (tl_new g_oW_cb (tl_new g_oW_zb (tl_new g_oW_db (tl_new g_oW_gb tl_no)))))
 replace q_oW_bk := qtr qq_bk q_oW_bk tq_oW
 have tq_o28 := o28.size
 replace o28 := o28.tail o38 (tl_q q_o28_bk (fun _ e => by cases e) (tl_in in1 (tl_in (in2 in1) (tl_in (in2 (in2 in1)) (tl_in (in2 (in2 (in2 in1))) tl_no)))))
 replace q_o28_bk := qtr qq_bk q_o28_bk tq_o28
 replace nq_bk_gb := nqs nq_bk_gb qq_bk h_lt_gb
 replace nq_bk_db := nqs nq_bk_db qq_bk h_lt_db
 replace nq_bk_zb := nqs nq_bk_zb qq_bk h_lt_zb
 replace nq_bk_cb := nqs nq_bk_cb qq_bk h_lt_cb
 have q_o38_bk := qq_bk
 have oH : Only (Orq bo_bk (Or1 cb (Or1 zb (Or1 db (Or1 gb No))))) w39 w39 := Only.refl _ _
 have q_oH_bk : Fr bo_bk bo_bk w39.heap.size := Fr.same
 refine wQ (pL ?_)
 refine wI (n_lss (a := j) (b := D) rfl rfl rfl) ?_
 refine wD (tN (wQ ?_))
 refine cond_if rfl (fun c40 => ?_) (fun c40 => ?_)
 ·
  refine wK (tN (wQ (wB ?_)))
  refine wp_eq (l' := ([(Value.agg #[(eN D), (eN B), (eN Q)]), ub, (ptr gb 0), undef, (Value.pointer none), (eN 0), (ptr cb 0), (z 7), undef, undef, (Value.agg #[(eN D), (eN B), (eN Q)]), vT, vF, (Value.agg #[(eN D), (eN B), (eN Q)]), (Value.agg #[(eN D), (eN B), (eN Q)]), (Value.agg #[(eN D), (eN B), (eN Q), (sli db 0 (D * B * Q) (D * B * Q))]), (Value.agg #[(eN D), (eN B), (eN Q)]), (Value.agg #[(eN D), (eN B), (eN Q), (sli zb 0 (D * B * Q) (D * B * Q))]), (Value.agg #[(eN D), (eN B), (eN Q), (eN D), (eN B), (eN Q), (sli db 0 (D * B * Q) (D * B * Q)), (eN D), (eN B), (eN Q), (sli zb 0 (D * B * Q) (D * B * Q)), (Value.slice none 0 0), (eN 0), (Value.slice none 0 0), vF, (eN 0), (eN 0)]), (ptr cb 0), (ptr cb 0), (ptr cb 0), (ptr cb 3), (ptr cb 6), (sli db 0 (D * B * Q) (D * B * Q)), (eN (D * B * Q)), (eN (D * B * Q)), (Value.bool (decide ((D * B * Q) < (D * B * Q))))] ++ (zs z 28 10 ++ [(ptr gb 0), (eN D), (eN j), (Value.bool (decide (j < D)))] ++ (zs z 42 13 ++ (us 27))))) rfl ?_
  have hX0_ : ∀ k, (Orq bo_bk (Or1 cb (Or1 zb (Or1 db (Or1 gb (Old W.heap.size)))))) k → k < w39.heap.size := (lt_orq a37.lts (lt_or1 a26.lt (lt_or1 a22.lt (lt_or1 a20.lt (lt_or1 a13.lt (fun k t => Nat.lt_of_lt_of_le t oW.size))))))
  have hO0_ : ∀ k, (Orq bo_bk (Or1 cb (Or1 zb (Or1 db (Or1 gb No))))) k → k < w39.heap.size := fun k h => hX0_ k ((orq_mono (or1_mono (or1_mono (or1_mono (or1_mono no_any))))) k h)
  refine drawnF (O := (Orq bo_bk (Or1 cb (Or1 zb (Or1 db (Or1 gb No)))))) (n := 13) [0] [9, 10, 11, 12] (fun i_ => nth [(ptr cb 0)] i_) 9 [0, 0, 2, 6, 14, 0, 32, 96, 224, 510, 1023, 2047, 4095] [(0, 42), (1, 43), (2, 44), (3, 45), (4, 46), (5, 47), (6, 48), (7, 49), (8, 50), (9, 51), (10, 52), (11, 53)] [(0, 42), (1, 43), (2, 44), (3, 45), (4, 46), (5, 47), (6, 48), (7, 49), (8, 50)] [0, 1, 2, 3, 4, 5, 6, 7, 8] [] (fun i_ => ([RF.is (Orq bo_bk (Or1 cb (Or1 zb (Or1 db (Or1 gb No))))) (ptr cb 0), RF.is (Orq bo_bk (Or1 cb (Or1 zb (Or1 db (Or1 gb No))))) (ptr cb 0), RF.is (Orq bo_bk (Or1 cb (Or1 zb (Or1 db (Or1 gb No))))) (ptr cb 0), RF.is (Orq bo_bk (Or1 cb (Or1 zb (Or1 db (Or1 gb No))))) (ptr cb 11), RF.is (Orq bo_bk (Or1 cb (Or1 zb (Or1 db (Or1 gb No))))) u_bk, RF.is (Orq bo_bk (Or1 cb (Or1 zb (Or1 db (Or1 gb No))))) (ptr gb 1), RF.is (Orq bo_bk (Or1 cb (Or1 zb (Or1 db (Or1 gb No))))) (eN B), RF.mk_ (Orq bo_bk (Or1 cb (Or1 zb (Or1 db (Or1 gb No))))) (fun b_ => (sli b_ 0 B B)) 77 (stC B (fun _ => St0)) w39.heap.size hO0_, RF.mkv_ (Orq bo_bk (Or1 cb (Or1 zb (Or1 db (Or1 gb No))))) (fun b_ => (sli b_ 0 1 1)) 75 (fun v41 => [(v41 7)]) w39.heap.size hO0_] : List (RF (Orq bo_bk (Or1 cb (Or1 zb (Or1 db (Or1 gb No))))))).getD i_ (RF.any (Orq bo_bk (Or1 cb (Or1 zb (Or1 db (Or1 gb No))))))) (fun _ w_ => Arr 23 gb [(eN D), (eN B), (eN Q)] w_ ∧ Arr 36 db (vd.map eV) w_ ∧ Arr 37 zb (List.replicate (D * B * Q) (Value.slice none 0 0)) w_ ∧ Arr 73 cb [(eN D), (eN B), (eN Q), (eN D), (eN B), (eN Q), (sli db 0 (D * B * Q) (D * B * Q)), (eN D), (eN B), (eN Q), (sli zb 0 (D * B * Q) (D * B * Q)), u_bk, (eN 0), (Value.slice none 0 0), vF, (eN 0), (eN 0)] w_ ∧ Ow 75 1 bo_bk u_bk (bk).length ((bk).map (eK B)) w_) (fun v41 => ([(Value.agg #[(eN D), (eN B), (eN Q)]), ub, (ptr gb 0), undef, (Value.pointer none), (eN 0), (ptr cb 0), (z 7), undef, undef, (Value.agg #[(eN D), (eN B), (eN Q)]), vT, vF, (Value.agg #[(eN D), (eN B), (eN Q)]), (Value.agg #[(eN D), (eN B), (eN Q)]), (Value.agg #[(eN D), (eN B), (eN Q), (sli db 0 (D * B * Q) (D * B * Q))]), (Value.agg #[(eN D), (eN B), (eN Q)]), (Value.agg #[(eN D), (eN B), (eN Q), (sli zb 0 (D * B * Q) (D * B * Q))]), (Value.agg #[(eN D), (eN B), (eN Q), (eN D), (eN B), (eN Q), (sli db 0 (D * B * Q) (D * B * Q)), (eN D), (eN B), (eN Q), (sli zb 0 (D * B * Q) (D * B * Q)), (Value.slice none 0 0), (eN 0), (Value.slice none 0 0), vF, (eN 0), (eN 0)]), (ptr cb 0), (ptr cb 0), (ptr cb 0), (ptr cb 3), (ptr cb 6), (sli db 0 (D * B * Q) (D * B * Q)), (eN (D * B * Q)), (eN (D * B * Q)), (Value.bool (decide ((D * B * Q) < (D * B * Q))))] ++ (zs z 28 10 ++ [(ptr gb 0), (eN D), (eN j), (Value.bool (decide (j < D))), (v41 0), (v41 1), (v41 2), (v41 3), (v41 4), (v41 5), (v41 6), (v41 7), (v41 8), (v41 9), (v41 10), (v41 11), (z 54)] ++ (us 27)))) (fun v41 => ([(Value.agg #[(eN D), (eN B), (eN Q)]), ub, (ptr gb 0), undef, (Value.pointer none), (eN 0), (ptr cb 0), (z 7), undef, undef, (Value.agg #[(eN D), (eN B), (eN Q)]), vT, vF, (Value.agg #[(eN D), (eN B), (eN Q)]), (Value.agg #[(eN D), (eN B), (eN Q)]), (Value.agg #[(eN D), (eN B), (eN Q), (sli db 0 (D * B * Q) (D * B * Q))]), (Value.agg #[(eN D), (eN B), (eN Q)]), (Value.agg #[(eN D), (eN B), (eN Q), (sli zb 0 (D * B * Q) (D * B * Q))]), (Value.agg #[(eN D), (eN B), (eN Q), (eN D), (eN B), (eN Q), (sli db 0 (D * B * Q) (D * B * Q)), (eN D), (eN B), (eN Q), (sli zb 0 (D * B * Q) (D * B * Q)), (Value.slice none 0 0), (eN 0), (Value.slice none 0 0), vF, (eN 0), (eN 0)]), (ptr cb 0), (ptr cb 0), (ptr cb 0), (ptr cb 3), (ptr cb 6), (sli db 0 (D * B * Q) (D * B * Q)), (eN (D * B * Q)), (eN (D * B * Q)), (Value.bool (decide ((D * B * Q) < (D * B * Q))))] ++ (zs z 28 10 ++ [(ptr gb 0), (eN D), (eN j), (Value.bool (decide (j < D))), (v41 0), (v41 1), (v41 2), (v41 3), (v41 4), (v41 5), (v41 6), (v41 7), (v41 8), (z 51), (z 52), (z 53), (z 54)] ++ (us 27)))) s_mx kr rfl (by decide) (by rfl) kr kr kr kr (fun l2_ w_ hl_ hn_ => fl_cons (fl_move (t := 6) hn_ kr (by rfl) (by rfl)) (fl_nil)) (fl_cons (by rfl) (fl_nil)) kr kr (by rfl) (fun v_ => by kernel_rfl) (fun v_ => by kernel_rfl) (fun _ => fun w_ w2_ h ho => by obtain ⟨r_a13, r_a20, r_a22, r_a26, r_a37⟩ := h; exact ⟨r_a13.step0 ho, r_a20.step0 ho, r_a22.step0 ho, r_a26.step0 ho, r_a37.step0 ho⟩) ⟨a13, a20, a22, a26, a37⟩ ?_ ?_ ?_
  ·
   refine ls_cons ?_ ?_
   ·
    intro v41 lo hi w_ k_ hO hd _ _ hk_ _ hR hold
    obtain ⟨r_a13, r_a20, r_a22, r_a26, r_a37⟩ := hR
    clear hd hold
    refine ⟨_, rfl, gd rfl ?_⟩
    exact Does.is (d_move rfl)
   refine ls_cons ?_ ?_
   ·
    intro v41 lo hi w_ k_ hO hd _ _ hk_ _ hR hold
    obtain ⟨r_a13, r_a20, r_a22, r_a26, r_a37⟩ := hR
    clear hd hold
    refine ⟨_, rfl, gd rfl ?_⟩
    exact Does.is (d_move rfl)
   refine ls_cons ?_ ?_
   ·
    intro v41 lo hi w_ k_ hO hd _ _ hk_ _ hR hold
    obtain ⟨r_a13, r_a20, r_a22, r_a26, r_a37⟩ := hR
    have e1 : v41 1 = (ptr cb 0) := hd 1 kr
    clear hd hold
    refine ⟨_, rfl, gd rfl ?_⟩
    exact Does.is (d_nilCheck (b := cb) (o := 0) e1)
   refine ls_cons ?_ ?_
   ·
    intro v41 lo hi w_ k_ hO hd _ _ hk_ _ hR hold
    obtain ⟨r_a13, r_a20, r_a22, r_a26, r_a37⟩ := hR
    have e2 : v41 2 = (ptr cb 0) := hd 2 kr
    clear hd hold
    refine ⟨_, rfl, gd rfl ?_⟩
    exact Does.is (d_fieldAddr (j := 11) Try.underlying73 rfl s_ti71 (by decide) e2 rfl)
   refine ls_cons ?_ ?_
   ·
    intro v41 lo hi w_ k_ hO hd _ _ hk_ _ hR hold
    obtain ⟨r_a13, r_a20, r_a22, r_a26, r_a37⟩ := hR
    have e3 : v41 3 = (ptr cb 11) := hd 3 kr
    clear hd hold
    refine ⟨_, rfl, gd rfl ?_⟩
    exact Does.is (d_load (v := u_bk) ⟨_, Try.underlying71, rfl⟩ e3 r_a26 rfl)
   refine ls_cons ?_ ?_
   ·
    intro v41 lo hi w_ k_ hO hd _ _ hk_ _ hR hold
    obtain ⟨r_a13, r_a20, r_a22, r_a26, r_a37⟩ := hR
    clear hd hold
    refine ⟨_, rfl, gd rfl ?_⟩
    exact Does.is (d_fieldAddr (j := 1) Try.underlying23 rfl s_ti3 (by decide) rfl rfl)
   refine ls_cons ?_ ?_
   ·
    intro v41 lo hi w_ k_ hO hd _ _ hk_ _ hR hold
    obtain ⟨r_a13, r_a20, r_a22, r_a26, r_a37⟩ := hR
    have e5 : v41 5 = (ptr gb 1) := hd 5 kr
    clear hd hold
    refine ⟨_, rfl, gd rfl ?_⟩
    exact Does.is (d_load (v := (eN B)) ⟨_, Try.underlying3, rfl⟩ e5 r_a13 rfl)
   refine ls_cons ?_ ?_
   ·
    intro v41 lo hi w_ k_ hO hd _ _ hk_ _ hR hold
    obtain ⟨r_a13, r_a20, r_a22, r_a26, r_a37⟩ := hR
    have e6 : v41 6 = (eN B) := hd 6 kr
    clear hd hold
    refine ⟨_, rfl, gd rfl ?_⟩
    refine Does.mono (d_make (n := B) (cs := (stC B (fun _ => St0))) Try.underlying75 s_ti77 e6 e6 oo oo (made_st B)) (fun u w' h => by obtain ⟨b_, rfl, hb_, hA_, hO_⟩ := h; exact ⟨⟨b_, rfl, hA_, Nat.le_trans hO.size hb_⟩, hO_⟩)
   refine ls_cons ?_ ?_
   ·
    intro v41 lo hi w_ k_ hO hd _ _ hk_ _ hR hold
    obtain ⟨r_a13, r_a20, r_a22, r_a26, r_a37⟩ := hR
    obtain ⟨mb7, me7, ma7, mf7⟩ : ∃ b_, v41 7 = (fun b_ => (sli b_ 0 B B)) b_ ∧ Arr 77 b_ (stC B (fun _ => St0)) w_ ∧ w39.heap.size ≤ b_ := hd 7 kr
    clear hd hold
    refine ⟨_, rfl, gd rfl ?_⟩
    refine Does.mono (d_buildL (cs := [(v41 7)]) Try.underlying71 s_ti75 rfl (nb rfl) (parts_cons (vs := [(v41 7)]) (cells_of (v := (v41 7)) rfl (by rw [me7]; rfl)) parts_nil) rfl) (fun u w' h => by obtain ⟨b_, rfl, hb_, hA_, hO_⟩ := h; exact ⟨⟨b_, rfl, hA_, Nat.le_trans hO.size hb_⟩, hO_⟩)
   exact ls_nil
  ·
   exact ms_nil
  intro v41 lo_ hi_ w42 o43 hd hR
  have e0 : v41 0 = (ptr cb 0) := hd 0 (by decide)
  have e1 : v41 1 = (ptr cb 0) := hd 1 (by decide)
  have e2 : v41 2 = (ptr cb 0) := hd 2 (by decide)
  have e3 : v41 3 = (ptr cb 11) := hd 3 (by decide)
  have e4 : v41 4 = u_bk := hd 4 (by decide)
  have e5 : v41 5 = (ptr gb 1) := hd 5 (by decide)
  have e6 : v41 6 = (eN B) := hd 6 (by decide)
  obtain ⟨b49, e7, a44, g45⟩ : ∃ b_, v41 7 = (fun b_ => (sli b_ 0 B B)) b_ ∧ Arr 77 b_ (stC B (fun _ => St0)) w42 ∧ w39.heap.size ≤ b_ := hd 7 (by decide)
  dsimp only at e7
  have n_gb_b49 : gb ≠ b49 := a13.ne g45
  have n_db_b49 : db ≠ b49 := a20.ne g45
  have n_zb_b49 : zb ≠ b49 := a22.ne g45
  have n_cb_b49 : cb ≠ b49 := a26.ne g45
  have nq_bk_b49 : ∀ x, bo_bk = some x → ¬ x = b49 := fun x hx e => by have := a37.lts x hx; omega
  have g_oW_b49 : W.heap.size ≤ b49 := Nat.le_trans oW.size g45
  have g_o28_b49 : w24.heap.size ≤ b49 := Nat.le_trans o28.size g45
  have g_o38_b49 : w29.heap.size ≤ b49 := Nat.le_trans o38.size g45
  have g_oH_b49 : w39.heap.size ≤ b49 := Nat.le_trans oH.size g45
  obtain ⟨b50, e8, a46, g47⟩ : ∃ b_, v41 8 = (fun b_ => (sli b_ 0 1 1)) b_ ∧ Arr 75 b_ [(v41 7)] w42 ∧ w39.heap.size ≤ b_ := hd 8 (by decide)
  dsimp only at e8
  have n_gb_b50 : gb ≠ b50 := a13.ne g47
  have n_db_b50 : db ≠ b50 := a20.ne g47
  have n_zb_b50 : zb ≠ b50 := a22.ne g47
  have n_cb_b50 : cb ≠ b50 := a26.ne g47
  have nq_bk_b50 : ∀ x, bo_bk = some x → ¬ x = b50 := fun x hx e => by have := a37.lts x hx; omega
  have g_oW_b50 : W.heap.size ≤ b50 := Nat.le_trans oW.size g47
  have g_o28_b50 : w24.heap.size ≤ b50 := Nat.le_trans o28.size g47
  have g_o38_b50 : w29.heap.size ≤ b50 := Nat.le_trans o38.size g47
  have g_oH_b50 : w39.heap.size ≤ b50 := Nat.le_trans oH.size g47
  have n_b49_b50 : b49 ≠ b50 := arr_ne a44 a46 (by decide)
  rw [e7] at a46
  replace a46 : Arr 75 b50 (([b49] : List Nat).map (eK B)) w42 := a46
  clear hd lo_ hi_
  refine wS.flat ([(Value.agg #[(eN D), (eN B), (eN Q)]), ub, (ptr gb 0), undef, (Value.pointer none), (eN 0), (ptr cb 0), (z 7), undef, undef, (Value.agg #[(eN D), (eN B), (eN Q)]), vT, vF, (Value.agg #[(eN D), (eN B), (eN Q)]), (Value.agg #[(eN D), (eN B), (eN Q)]), (Value.agg #[(eN D), (eN B), (eN Q), (sli db 0 (D * B * Q) (D * B * Q))]), (Value.agg #[(eN D), (eN B), (eN Q)]), (Value.agg #[(eN D), (eN B), (eN Q), (sli zb 0 (D * B * Q) (D * B * Q))]), (Value.agg #[(eN D), (eN B), (eN Q), (eN D), (eN B), (eN Q), (sli db 0 (D * B * Q) (D * B * Q)), (eN D), (eN B), (eN Q), (sli zb 0 (D * B * Q) (D * B * Q)), (Value.slice none 0 0), (eN 0), (Value.slice none 0 0), vF, (eN 0), (eN 0)]), (ptr cb 0), (ptr cb 0), (ptr cb 0), (ptr cb 3), (ptr cb 6), (sli db 0 (D * B * Q) (D * B * Q)), (eN (D * B * Q)), (eN (D * B * Q)), (Value.bool (decide ((D * B * Q) < (D * B * Q))))] ++ (zs z 28 10 ++ [(ptr gb 0), (eN D), (eN j), (Value.bool (decide (j < D))), (ptr cb 0), (ptr cb 0), (ptr cb 0), (ptr cb 11), u_bk, (ptr gb 1), (eN B), (sli b49 0 B B), (sli b50 0 1 1), (z 51), (z 52), (z 53), (z 54)] ++ (us 27))) (by rw [e0, e1, e2, e3, e4, e5, e6, e7, e8] <;> rfl) ?_
  clear e0 e1 e2 e3 e4 e5 e6 e7 e8
  replace hG := ((hG.less (Y := (Or1 b49 (Orq bo_bk (Or1 cb (Or1 zb (Or1 db (Or1 gb (fun k => k ∈ bk ∨ Old W.heap.size k)))))))) (xx_new g45 xx_id)).less (Y := (Or1 b50 (Or1 b49 (Orq bo_bk (Or1 cb (Or1 zb (Or1 db (Or1 gb (fun k => k ∈ bk ∨ Old W.heap.size k))))))))) (xx_new g47 xx_id)).step o43 (or1_skip (or1_skip (orq_mono (or1_mono (or1_mono (or1_mono (or1_mono no_any)))))))
  replace hK := ((hK.less (Y := (Or1 b49 (Orq bo_bk (Or1 cb (Or1 zb (Or1 db (Or1 gb (Old W.heap.size)))))))) (xx_new g45 xx_id)).less (Y := (Or1 b50 (Or1 b49 (Orq bo_bk (Or1 cb (Or1 zb (Or1 db (Or1 gb (Old W.heap.size))))))))) (xx_new g47 xx_id)).step o43 (or1_skip (or1_skip (orq_mono (or1_mono (or1_mono (or1_mono (or1_mono no_any)))))))
  obtain ⟨xr_a13, xr_a20, xr_a22, xr_a26, xr_a37⟩ := hR
  replace a13 : Arr 23 gb [(eN D), (eN B), (eN Q)] w42 := xr_a13
  replace a20 : Arr 36 db (vd.map eV) w42 := xr_a20
  replace a22 : Arr 37 zb (List.replicate (D * B * Q) (Value.slice none 0 0)) w42 := xr_a22
  replace a26 : Arr 73 cb [(eN D), (eN B), (eN Q), (eN D), (eN B), (eN Q), (sli db 0 (D * B * Q) (D * B * Q)), (eN D), (eN B), (eN Q), (sli zb 0 (D * B * Q) (D * B * Q)), u_bk, (eN 0), (Value.slice none 0 0), vF, (eN 0), (eN 0)] w42 := xr_a26
  replace a37 : Ow 75 1 bo_bk u_bk (bk).length ((bk).map (eK B)) w42 := xr_a37
  clear xr_a13 xr_a20 xr_a22 xr_a26 xr_a37
  replace oW := oW.tail o43 (tl_q q_oW_bk (fun _ e => by cases e) (tl_new g_oW_cb (tl_new g_oW_zb (tl_new g_oW_db (tl_new g_oW_gb tl_no)))))
  replace o28 := o28.tail o43 (tl_q q_o28_bk (fun _ e => by cases e) (tl_in in1 (tl_in (in2 in1) (tl_in (in2 (in2 in1)) (tl_in (in2 (in2 (in2 in1))) tl_no)))))
  replace o38 := o38.tail o43 (tl_q q_o38_bk (fun k e => (.inl e)) (tl_in (inq in1) (tl_in (inq (in2 in1)) (tl_in (inq (in2 (in2 in1))) (tl_in (inq (in2 (in2 (in2 in1)))) tl_no)))))
  replace oH := oH.tail o43 (tl_q q_oH_bk (fun k e => (.inl e)) (tl_in (inq in1) (tl_in (inq (in2 in1)) (tl_in (inq (in2 (in2 in1))) (tl_in (inq (in2 (in2 (in2 in1)))) tl_no)))))
  have l_b50 : (([b49] : List Nat) : List Nat).length = 1 := by simp
  refine wS.op rfl rfl (d_append Try.underlying71 Try.underlying71 s_ti75 rfl rfl rfl a37 (SrcV.of_seq (arr_seq a46 l_b50 (Nat.le_refl _)) (fun _ => rfl)) (by simp; omega) (by simp; omega) rfl) ?_
  rintro u48 w49 ⟨bo50, a51, o52, q53⟩
  replace a51 : Ow 75 1 bo50 u48 (bk ++ ([b49] : List Nat)).length ((bk ++ ([b49] : List Nat)).map (eK B)) w49 := by rw [List.length_append, List.map_append]; exact a51
  replace hG := hG.gr o52 (fun k e => (.inr (.inr (.inl e)))) (xx_or1 (xx_or1 (xx_re (Fr.of_or q53) (xx_or1 (xx_or1 (xx_or1 (xx_or1 xx_id)))))))
  replace hK := hK.gr o52 (fun k e => (.inr (.inr (.inl e)))) (xx_or1 (xx_or1 (xx_re (Fr.of_or q53) (xx_or1 (xx_or1 (xx_or1 (xx_or1 xx_id)))))))
  have nq2 := nqs nq_bk_gb (Fr.of_or q53) a13.lt
  replace a13 := a13.step o52 (fun e => nq_bk_gb _ e rfl)
  replace nq_bk_gb := nq2
  clear nq2
  have nq2 := nqs nq_bk_db (Fr.of_or q53) a20.lt
  replace a20 := a20.step o52 (fun e => nq_bk_db _ e rfl)
  replace nq_bk_db := nq2
  clear nq2
  have nq2 := nqs nq_bk_zb (Fr.of_or q53) a22.lt
  replace a22 := a22.step o52 (fun e => nq_bk_zb _ e rfl)
  replace nq_bk_zb := nq2
  clear nq2
  have nq2 := nqs nq_bk_cb (Fr.of_or q53) a26.lt
  replace a26 := a26.step o52 (fun e => nq_bk_cb _ e rfl)
  replace nq_bk_cb := nq2
  clear nq2
  have nq2 := nqs nq_bk_b49 (Fr.of_or q53) a44.lt
  replace a44 := a44.step o52 (fun e => nq_bk_b49 _ e rfl)
  replace nq_bk_b49 := nq2
  clear nq2
  have nq2 := nqs nq_bk_b50 (Fr.of_or q53) a46.lt
  replace a46 := a46.step o52 (fun e => nq_bk_b50 _ e rfl)
  replace nq_bk_b50 := nq2
  clear nq2
  have tq := oW.size
  replace oW := oW.tailr o52 q_oW_bk (fun _ e => by cases e)
  replace q_oW_bk := qtr (Fr.of_or q53) q_oW_bk tq
  clear tq
  have tq := o28.size
  replace o28 := o28.tailr o52 q_o28_bk (fun _ e => by cases e)
  replace q_o28_bk := qtr (Fr.of_or q53) q_o28_bk tq
  clear tq
  have tq := o38.size
  replace o38 := o38.tailr o52 q_o38_bk (fun k e => (.inl e))
  replace q_o38_bk := qtr (Fr.of_or q53) q_o38_bk tq
  clear tq
  have tq := oH.size
  replace oH := oH.tailr o52 q_oH_bk (fun k e => (.inl e))
  replace q_oH_bk := qtr (Fr.of_or q53) q_oH_bk tq
  clear tq
  refine wS.flat ([(Value.agg #[(eN D), (eN B), (eN Q)]), ub, (ptr gb 0), undef, (Value.pointer none), (eN 0), (ptr cb 0), (z 7), undef, undef, (Value.agg #[(eN D), (eN B), (eN Q)]), vT, vF, (Value.agg #[(eN D), (eN B), (eN Q)]), (Value.agg #[(eN D), (eN B), (eN Q)]), (Value.agg #[(eN D), (eN B), (eN Q), (sli db 0 (D * B * Q) (D * B * Q))]), (Value.agg #[(eN D), (eN B), (eN Q)]), (Value.agg #[(eN D), (eN B), (eN Q), (sli zb 0 (D * B * Q) (D * B * Q))]), (Value.agg #[(eN D), (eN B), (eN Q), (eN D), (eN B), (eN Q), (sli db 0 (D * B * Q) (D * B * Q)), (eN D), (eN B), (eN Q), (sli zb 0 (D * B * Q) (D * B * Q)), (Value.slice none 0 0), (eN 0), (Value.slice none 0 0), vF, (eN 0), (eN 0)]), (ptr cb 0), (ptr cb 0), (ptr cb 0), (ptr cb 3), (ptr cb 6), (sli db 0 (D * B * Q) (D * B * Q)), (eN (D * B * Q)), (eN (D * B * Q)), (Value.bool (decide ((D * B * Q) < (D * B * Q))))] ++ (zs z 28 10 ++ [(ptr gb 0), (eN D), (eN j), (Value.bool (decide (j < D))), (ptr cb 0), (ptr cb 0), (ptr cb 0), (ptr cb 11), u_bk, (ptr gb 1), (eN B), (sli b49 0 B B), (sli b50 0 1 1), u48, (z 52), (z 53), (z 54)] ++ (us 27))) kr ?_
  refine wS.is rfl rfl (d_nilCheck (b := cb) (o := 0) rfl) ?_
  refine wS.is rfl rfl (d_fieldAddr (j := 11) Try.underlying73 rfl s_ti71 (by decide) rfl rfl) ?_
  refine wS.op rfl rfl (d_store s_ti71 rfl rfl (Ow.one a51) a26 (nb rfl) rfl) ?_
  rintro _ w54 ⟨a55, o56⟩
  replace hG := hG.stepb o56 (in2 (in2 (inq in1)))
  replace hK := hK.stepb o56 (in2 (in2 (inq in1)))
  replace a13 := a13.step o56 (fun e => absurd e n_gb_cb)
  replace a20 := a20.step o56 (fun e => absurd e n_db_cb)
  replace a22 := a22.step o56 (fun e => absurd e n_zb_cb)
  replace a44 := a44.step o56 (fun e => absurd e (Ne.symm n_cb_b49))
  replace a46 := a46.step o56 (fun e => absurd e (Ne.symm n_cb_b50))
  replace a51 := a51.step o56 (fun x hx e => nq_bk_cb x hx e)
  replace oW := oW.tailb o56 g_oW_cb
  replace o28 := o28.tail o56 (fun k _ e => by have : k = cb := e; rw [this]; exact in1)
  replace o38 := o38.tail o56 (fun k _ e => by have : k = cb := e; rw [this]; exact (inq in1))
  replace oH := oH.tail o56 (fun k _ e => by have : k = cb := e; rw [this]; exact (inq in1))
  refine wS.flat ([(Value.agg #[(eN D), (eN B), (eN Q)]), ub, (ptr gb 0), undef, (Value.pointer none), (eN 0), (ptr cb 0), (z 7), undef, undef, (Value.agg #[(eN D), (eN B), (eN Q)]), vT, vF, (Value.agg #[(eN D), (eN B), (eN Q)]), (Value.agg #[(eN D), (eN B), (eN Q)]), (Value.agg #[(eN D), (eN B), (eN Q), (sli db 0 (D * B * Q) (D * B * Q))]), (Value.agg #[(eN D), (eN B), (eN Q)]), (Value.agg #[(eN D), (eN B), (eN Q), (sli zb 0 (D * B * Q) (D * B * Q))]), (Value.agg #[(eN D), (eN B), (eN Q), (eN D), (eN B), (eN Q), (sli db 0 (D * B * Q) (D * B * Q)), (eN D), (eN B), (eN Q), (sli zb 0 (D * B * Q) (D * B * Q)), (Value.slice none 0 0), (eN 0), (Value.slice none 0 0), vF, (eN 0), (eN 0)]), (ptr cb 0), (ptr cb 0), (ptr cb 0), (ptr cb 3), (ptr cb 6), (sli db 0 (D * B * Q) (D * B * Q)), (eN (D * B * Q)), (eN (D * B * Q)), (Value.bool (decide ((D * B * Q) < (D * B * Q))))] ++ (zs z 28 10 ++ [(ptr gb 0), (eN D), (eN j), (Value.bool (decide (j < D))), (ptr cb 0), (ptr cb 0), (ptr cb 0), (ptr cb 11), u_bk, (ptr gb 1), (eN B), (sli b49 0 B B), (sli b50 0 1 1), u48, (ptr cb 0), (ptr cb 11), (z 54)] ++ (us 27))) kr ?_
  refine wS.done ?_
  refine inb_n (tN ?_)
  refine pL ?_
  refine wI (n_add (a := j) (b := 1) rfl rfl oo) ?_
  refine wI (d_move rfl) ?_
  refine wD (tN ?_)
  have szH := oH.size
  have gH := g_oH_b49
  refine ⟨_, ⟨j + 1, bk ++ [b49], bo50, u48⟩, rfl, kr, ⟨?_, ?_, ?_, ?_, ?_, ?_, ?_, ?_, ?_, ?_, ?_, ?_, ?_, ?_⟩, ?_⟩
  ·
   (try dsimp only)
   all_goals (omega)
  ·
   (try dsimp only)
   all_goals (rw [List.length_append, hl, List.length_singleton])
  ·
   (try dsimp only)
   all_goals (rw [List.nodup_append]; exact ⟨hn, List.nodup_cons.2 ⟨List.not_mem_nil, List.nodup_nil⟩, fun x hx y hy => by rw [List.mem_singleton.1 hy]; have := (hb x hx).2.2.2.2; omega⟩)
  ·
   (try dsimp only)
   all_goals (intro x hx; rcases List.mem_append.1 hx with hx | hx; (obtain ⟨h1, h2, h3, h4, h5⟩ := hb x hx; exact ⟨h1, h2, h3, h4, by omega⟩); (rw [List.mem_singleton.1 hx]; exact ⟨Ne.symm n_cb_b49, Ne.symm n_db_b49, Ne.symm n_zb_b49, g_oW_b49, a44.lt⟩))
  ·
   (try dsimp only)
   all_goals (intro x hx hm; rcases List.mem_append.1 hm with hm | hm; (rcases q_oH_bk x hx with h | h; (exact hbo x h hm); (have := (hb x hm).2.2.2.2; omega)); (exact nq_bk_b49 x hx (List.mem_singleton.1 hm)))
  ·
   exact kst_next (hK.less (xx_skip (xx_skip (xx_orq (xx_or1 (xx_or1 (xx_or1 (xx_or1 xx_id)))))))) ((a44.ps fun _ h => h).less (nx_orq nq_bk_b49 (nx_or1 n_cb_b49 (nx_or1 n_zb_b49 (nx_or1 n_db_b49 (nx_or1 n_gb_b49 (old_ne g_oW_b49))))))) hl
  ·
   (try dsimp only)
   all_goals (exact hG.less (by intro k _ h; simp only [Or1, Orq, List.mem_append, List.mem_singleton] at h ⊢; grind))
  ·
   exact o38
  ·
   exact a13
  ·
   exact a20
  ·
   exact a22
  ·
   exact a55
  ·
   exact a51
  ·
   exact q_o38_bk
  ·
   (try dsimp only)
   all_goals (omega)
 refine wpIn_exit ?_
 refine then_x (then_x (inb_e ?_))
 refine tN (wQ (wQ ?_))
 have hjD : j = D := by omega
 rw [hjD] at hK hl
 obtain ⟨Lq, eL, hN, hfr⟩ : ∃ Lq : NL, cb = Lq.bN ∧ Nd Lq (NS.new D B Q (fun _ _ => false)) (Old W.heap.size) w39 ∧ ∀ k, Lq.S k → W.heap.size ≤ k := ⟨⟨73, 36, 37, 77, cb, db, zb, bo_bk, u_bk, bk⟩, rfl, nd_new hD hB hQ a26 a20 a22 a37 hK (hG.less (by intro k _ h; simp only [Or1, Orq] at h ⊢; grind)) l_db hl oW (Ne.symm n_db_cb) (Ne.symm n_zb_cb) n_db_zb hn (fun x hx => by obtain ⟨h1, h2, h3, h4, h5⟩ := hb x hx; have := oH.size; exact ⟨h1, h2, h3, h4, by omega⟩) (fun x hx => ⟨nq_bk_cb x hx, nq_bk_db x hx, nq_bk_zb x hx, hbo x hx, (q_oW_bk x hx).elim (fun e => by cases e) id, a37.lts x hx⟩) g_oW_cb g_oW_db g_oW_zb⟩
 have h2 : Ps (Ors Lq.S No) (Seq (kA 2 eQ) lb ub) w39 := h2W.re oW (fun _ t => t.elim) (xx_news hfr xx_id)
 have g_oW_Lq := hfr
 refine wp_eq (l' := ([(Value.agg #[(eN D), (eN B), (eN Q)]), ub, (ptr gb 0), undef, (Value.pointer none), (eN 0), (ptr cb 0), (z 7), undef, undef, (Value.agg #[(eN D), (eN B), (eN Q)]), vT, vF, (Value.agg #[(eN D), (eN B), (eN Q)]), (Value.agg #[(eN D), (eN B), (eN Q)]), (Value.agg #[(eN D), (eN B), (eN Q), (sli db 0 (D * B * Q) (D * B * Q))]), (Value.agg #[(eN D), (eN B), (eN Q)]), (Value.agg #[(eN D), (eN B), (eN Q), (sli zb 0 (D * B * Q) (D * B * Q))]), (Value.agg #[(eN D), (eN B), (eN Q), (eN D), (eN B), (eN Q), (sli db 0 (D * B * Q) (D * B * Q)), (eN D), (eN B), (eN Q), (sli zb 0 (D * B * Q) (D * B * Q)), (Value.slice none 0 0), (eN 0), (Value.slice none 0 0), vF, (eN 0), (eN 0)]), (ptr cb 0), (ptr cb 0), (ptr cb 0), (ptr cb 3), (ptr cb 6), (sli db 0 (D * B * Q) (D * B * Q)), (eN (D * B * Q)), (eN (D * B * Q)), (Value.bool (decide ((D * B * Q) < (D * B * Q))))] ++ (zs z 28 10 ++ [(ptr gb 0), (eN D), (eN j), (Value.bool (decide (j < D)))] ++ (zs z 42 13 ++ (us 27))))) rfl ?_
 refine wp_eq (l' := ([(Value.agg #[(eN D), (eN B), (eN Q)]), ub, (ptr gb 0), undef, (Value.pointer none), (eN 0), (ptr Lq.bN 0), (z 7), undef, undef, (Value.agg #[(eN D), (eN B), (eN Q)]), vT, vF, (Value.agg #[(eN D), (eN B), (eN Q)]), (Value.agg #[(eN D), (eN B), (eN Q)]), (Value.agg #[(eN D), (eN B), (eN Q), (sli db 0 (D * B * Q) (D * B * Q))]), (Value.agg #[(eN D), (eN B), (eN Q)]), (Value.agg #[(eN D), (eN B), (eN Q), (sli zb 0 (D * B * Q) (D * B * Q))]), (Value.agg #[(eN D), (eN B), (eN Q), (eN D), (eN B), (eN Q), (sli db 0 (D * B * Q) (D * B * Q)), (eN D), (eN B), (eN Q), (sli zb 0 (D * B * Q) (D * B * Q)), (Value.slice none 0 0), (eN 0), (Value.slice none 0 0), vF, (eN 0), (eN 0)]), (ptr cb 0), (ptr cb 0), (ptr cb 0), (ptr cb 3), (ptr cb 6), (sli db 0 (D * B * Q) (D * B * Q)), (eN (D * B * Q)), (eN (D * B * Q)), (Value.bool (decide ((D * B * Q) < (D * B * Q))))] ++ (zs z 28 10 ++ [(ptr gb 0), (eN D), (eN j), (Value.bool (decide (j < D)))] ++ (zs z 42 13 ++ (us 27))))) (show (([(Value.agg #[(eN D), (eN B), (eN Q)]), ub, (ptr gb 0), undef, (Value.pointer none), (eN 0), (ptr cb 0), (z 7), undef, undef, (Value.agg #[(eN D), (eN B), (eN Q)]), vT, vF, (Value.agg #[(eN D), (eN B), (eN Q)]), (Value.agg #[(eN D), (eN B), (eN Q)]), (Value.agg #[(eN D), (eN B), (eN Q), (sli db 0 (D * B * Q) (D * B * Q))]), (Value.agg #[(eN D), (eN B), (eN Q)]), (Value.agg #[(eN D), (eN B), (eN Q), (sli zb 0 (D * B * Q) (D * B * Q))]), (Value.agg #[(eN D), (eN B), (eN Q), (eN D), (eN B), (eN Q), (sli db 0 (D * B * Q) (D * B * Q)), (eN D), (eN B), (eN Q), (sli zb 0 (D * B * Q) (D * B * Q)), (Value.slice none 0 0), (eN 0), (Value.slice none 0 0), vF, (eN 0), (eN 0)]), (ptr cb 0), (ptr cb 0), (ptr cb 0), (ptr cb 3), (ptr cb 6), (sli db 0 (D * B * Q) (D * B * Q)), (eN (D * B * Q)), (eN (D * B * Q)), (Value.bool (decide ((D * B * Q) < (D * B * Q))))] ++ (zs z 28 10 ++ [(ptr gb 0), (eN D), (eN j), (Value.bool (decide (j < D)))] ++ (zs z 42 13 ++ (us 27)))) : List Value) = ([(Value.agg #[(eN D), (eN B), (eN Q)]), ub, (ptr gb 0), undef, (Value.pointer none), (eN 0), (ptr Lq.bN 0), (z 7), undef, undef, (Value.agg #[(eN D), (eN B), (eN Q)]), vT, vF, (Value.agg #[(eN D), (eN B), (eN Q)]), (Value.agg #[(eN D), (eN B), (eN Q)]), (Value.agg #[(eN D), (eN B), (eN Q), (sli db 0 (D * B * Q) (D * B * Q))]), (Value.agg #[(eN D), (eN B), (eN Q)]), (Value.agg #[(eN D), (eN B), (eN Q), (sli zb 0 (D * B * Q) (D * B * Q))]), (Value.agg #[(eN D), (eN B), (eN Q), (eN D), (eN B), (eN Q), (sli db 0 (D * B * Q) (D * B * Q)), (eN D), (eN B), (eN Q), (sli zb 0 (D * B * Q) (D * B * Q)), (Value.slice none 0 0), (eN 0), (Value.slice none 0 0), vF, (eN 0), (eN 0)]), (ptr cb 0), (ptr cb 0), (ptr cb 0), (ptr cb 3), (ptr cb 6), (sli db 0 (D * B * Q) (D * B * Q)), (eN (D * B * Q)), (eN (D * B * Q)), (Value.bool (decide ((D * B * Q) < (D * B * Q))))] ++ (zs z 28 10 ++ [(ptr gb 0), (eN D), (eN j), (Value.bool (decide (j < D)))] ++ (zs z 42 13 ++ (us 27)))) from reslot ([(Value.agg #[(eN D), (eN B), (eN Q)]), ub, (ptr gb 0), undef, (Value.pointer none), (eN 0), (ptr cb 0), (z 7), undef, undef, (Value.agg #[(eN D), (eN B), (eN Q)]), vT, vF, (Value.agg #[(eN D), (eN B), (eN Q)]), (Value.agg #[(eN D), (eN B), (eN Q)]), (Value.agg #[(eN D), (eN B), (eN Q), (sli db 0 (D * B * Q) (D * B * Q))]), (Value.agg #[(eN D), (eN B), (eN Q)]), (Value.agg #[(eN D), (eN B), (eN Q), (sli zb 0 (D * B * Q) (D * B * Q))]), (Value.agg #[(eN D), (eN B), (eN Q), (eN D), (eN B), (eN Q), (sli db 0 (D * B * Q) (D * B * Q)), (eN D), (eN B), (eN Q), (sli zb 0 (D * B * Q) (D * B * Q)), (Value.slice none 0 0), (eN 0), (Value.slice none 0 0), vF, (eN 0), (eN 0)]), (ptr cb 0), (ptr cb 0), (ptr cb 0), (ptr cb 3), (ptr cb 6), (sli db 0 (D * B * Q) (D * B * Q)), (eN (D * B * Q)), (eN (D * B * Q)), (Value.bool (decide ((D * B * Q) < (D * B * Q))))] ++ (zs z 28 10 ++ [(ptr gb 0), (eN D), (eN j), (Value.bool (decide (j < D)))] ++ (zs z 42 13 ++ (us 27)))) 6 (congrArg (fun x_ => ptr x_ 0) eL)) ?_
 refine pL ?_
 refine wI (d_move rfl) ?_
 refine wI (d_lenS rfl Try.underlying24 rfl h2) ?_
 refine wI (d_move rfl) ?_
 refine wD (tN (wB ?_))
 refine loop2 (fun (s_ : (Nat) × (NS)) => match s_ with | ⟨i6, s6⟩ => fun (z : Nat → Value) => (([(Value.agg #[(eN D), (eN B), (eN Q)]), ub, (ptr gb 0), undef, (z 4), (z 5), (ptr Lq.bN 0), (z 7), undef, (z 9), (Value.agg #[(eN D), (eN B), (eN Q)]), vT, vF, (Value.agg #[(eN D), (eN B), (eN Q)]), (Value.agg #[(eN D), (eN B), (eN Q)]), (Value.agg #[(eN D), (eN B), (eN Q), (sli db 0 (D * B * Q) (D * B * Q))]), (Value.agg #[(eN D), (eN B), (eN Q)]), (Value.agg #[(eN D), (eN B), (eN Q), (sli zb 0 (D * B * Q) (D * B * Q))]), (Value.agg #[(eN D), (eN B), (eN Q), (eN D), (eN B), (eN Q), (sli db 0 (D * B * Q) (D * B * Q)), (eN D), (eN B), (eN Q), (sli zb 0 (D * B * Q) (D * B * Q)), (Value.slice none 0 0), (eN 0), (Value.slice none 0 0), vF, (eN 0), (eN 0)]), (ptr cb 0), (ptr cb 0), (ptr cb 0), (ptr cb 3), (ptr cb 6), (sli db 0 (D * B * Q) (D * B * Q)), (eN (D * B * Q)), (eN (D * B * Q)), (Value.bool (decide ((D * B * Q) < (D * B * Q))))] ++ (zs z 28 10 ++ [(ptr gb 0), (eN D), (eN j), (Value.bool (decide (j < D)))] ++ (zs z 42 13 ++ [ub, (eN lb.length), (eN i6)] ++ (zs z 58 23 ++ [undef])))) : List Value)) (fun (s_ : (Nat) × (NS)) => match s_ with | ⟨i6, s6⟩ => fun (w_ : World) => (i6 ≤ lb.length) ∧ (NewJ s6 D B Q (lb.take i6)) ∧ Only (Ors Lq.S No) w39 w_ ∧ Nd Lq s6 (Old W.heap.size) w_) (fun (s_ : (Nat) × (NS)) => match s_ with | ⟨i6, s6⟩ => lb.length - i6) ⟨0, (NS.new D B Q (fun _ _ => false))⟩ kr ?_ ?_
 ·
  refine ⟨?_, ?_, ?_, ?_⟩
  ·
   exact Nat.zero_le _
  ·
   exact newJ_nil D B Q
  ·
   exact Only.refl _ _
  ·
   exact hN
 rintro ⟨i6, s6⟩ z w58 ⟨hi6, hS, o57, hN⟩
 (try dsimp only)
 replace h2 := h2.step o57 (ors_mono no_any)
 replace oW := oW.tail o57 (tl_snew g_oW_Lq tl_no)
 refine wQ (pL ?_)
 refine wI (n_lss (a := i6) (b := lb.length) rfl rfl rfl) ?_
 refine wD (tN (wQ ?_))
 refine cond_if rfl (fun c59 => ?_) (fun c59 => ?_)
 ·
  refine wK (tN (wQ (wB (wQ (pL ?_)))))
  refine wO (d_indexS (q := (kA 2 eQ)) (xs := lb) (v := (lb.getD i6 (0, 0))) Try.underlying24 s_ti51 rfl h2 (show _ = Value.int _ (i6 : Int) from rfl) oo (g_at fo)) ?_
  rintro u60 _ ⟨f61, rfl⟩
  refine wI (d_loadAtA (enc := eQ) (v := (lb.getD i6 (0, 0))) ⟨_, Try.underlying51, rfl⟩ s_ti51 rfl f61) ?_
  refine wO (d_alloc s_ti51 rfl) ?_
  rintro _ w62 ⟨pb, rfl, g63, a64, o65⟩
  have g_oW_pb : W.heap.size ≤ pb := Nat.le_trans oW.size g63
  have g_o57_pb : w39.heap.size ≤ pb := Nat.le_trans o57.size g63
  replace hN := hN.new o65 g63
  replace h2 := h2.new o65 g63
  replace f61 := f61.new o65 g63
  replace oW := oW.tail0 o65
  replace o57 := o57.tail0 o65
  refine wO (d_storeAg (cs' := [(eI ((lb.getD i6 (0, 0)).1)), (eI ((lb.getD i6 (0, 0)).2))]) s_ti51 rfl rfl rfl (oc_cons rfl (oc_cons rfl oc_nil)) a64 (by decide) rfl) ?_
  rintro _ w66 ⟨a67, o68⟩
  replace hN := hN.stepb o68 in1
  replace h2 := h2.stepb o68 in1
  replace f61 := f61.stepb o68 in1
  replace oW := oW.tailb o68 g_oW_pb
  replace o57 := o57.tailb o68 g_o57_pb
  refine wF ([(Value.agg #[(eN D), (eN B), (eN Q)]), ub, (ptr gb 0), undef, (z 4), (z 5), (ptr Lq.bN 0), (z 7), undef, (ptr pb 0), (Value.agg #[(eN D), (eN B), (eN Q)]), vT, vF, (Value.agg #[(eN D), (eN B), (eN Q)]), (Value.agg #[(eN D), (eN B), (eN Q)]), (Value.agg #[(eN D), (eN B), (eN Q), (sli db 0 (D * B * Q) (D * B * Q))]), (Value.agg #[(eN D), (eN B), (eN Q)]), (Value.agg #[(eN D), (eN B), (eN Q), (sli zb 0 (D * B * Q) (D * B * Q))]), (Value.agg #[(eN D), (eN B), (eN Q), (eN D), (eN B), (eN Q), (sli db 0 (D * B * Q) (D * B * Q)), (eN D), (eN B), (eN Q), (sli zb 0 (D * B * Q) (D * B * Q)), (Value.slice none 0 0), (eN 0), (Value.slice none 0 0), vF, (eN 0), (eN 0)]), (ptr cb 0), (ptr cb 0), (ptr cb 0), (ptr cb 3), (ptr cb 6), (sli db 0 (D * B * Q) (D * B * Q)), (eN (D * B * Q)), (eN (D * B * Q)), (Value.bool (decide ((D * B * Q) < (D * B * Q))))] ++ (zs z 28 10 ++ [(ptr gb 0), (eN D), (eN j), (Value.bool (decide (j < D)))] ++ (zs z 42 13 ++ [ub, (eN lb.length), (eN i6), (Value.bool (decide (i6 < lb.length))), u60, (Value.agg #[(eI ((lb.getD i6 (0, 0)).1)), (eI ((lb.getD i6 (0, 0)).2))])] ++ (zs z 61 20 ++ [undef])))) ?_
  refine wD (tN (wQ (wQ (pL ?_))))
  refine wI (d_move rfl) ?_
  refine wI (d_indexArr1 (i := 0) Try.underlying51 s_ti3 rfl (show _ = Value.int _ ((0 : Nat) : Int) from rfl) oo) ?_
  refine wI (d_load (v := (eI ((lb.getD i6 (0, 0)).1))) ⟨_, Try.underlying3, rfl⟩ rfl a67 rfl) ?_
  refine wI (d_indexArr1 (i := 1) Try.underlying51 s_ti3 rfl (show _ = Value.int _ ((1 : Nat) : Int) from rfl) oo) ?_
  refine wI (d_load (v := (eI ((lb.getD i6 (0, 0)).2))) ⟨_, Try.underlying3, rfl⟩ rfl a67 rfl) ?_
  refine wF ([(Value.agg #[(eN D), (eN B), (eN Q)]), ub, (ptr gb 0), undef, (z 4), (z 5), (ptr Lq.bN 0), (z 7), undef, (ptr pb 0), (Value.agg #[(eN D), (eN B), (eN Q)]), vT, vF, (Value.agg #[(eN D), (eN B), (eN Q)]), (Value.agg #[(eN D), (eN B), (eN Q)]), (Value.agg #[(eN D), (eN B), (eN Q), (sli db 0 (D * B * Q) (D * B * Q))]), (Value.agg #[(eN D), (eN B), (eN Q)]), (Value.agg #[(eN D), (eN B), (eN Q), (sli zb 0 (D * B * Q) (D * B * Q))]), (Value.agg #[(eN D), (eN B), (eN Q), (eN D), (eN B), (eN Q), (sli db 0 (D * B * Q) (D * B * Q)), (eN D), (eN B), (eN Q), (sli zb 0 (D * B * Q) (D * B * Q)), (Value.slice none 0 0), (eN 0), (Value.slice none 0 0), vF, (eN 0), (eN 0)]), (ptr cb 0), (ptr cb 0), (ptr cb 0), (ptr cb 3), (ptr cb 6), (sli db 0 (D * B * Q) (D * B * Q)), (eN (D * B * Q)), (eN (D * B * Q)), (Value.bool (decide ((D * B * Q) < (D * B * Q))))] ++ (zs z 28 10 ++ [(ptr gb 0), (eN D), (eN j), (Value.bool (decide (j < D)))] ++ (zs z 42 13 ++ [ub, (eN lb.length), (eN i6), (Value.bool (decide (i6 < lb.length))), u60, (Value.agg #[(eI ((lb.getD i6 (0, 0)).1)), (eI ((lb.getD i6 (0, 0)).2))]), (ptr Lq.bN 0), (ptr pb 0), (eI ((lb.getD i6 (0, 0)).1)), (ptr pb 1), (eI ((lb.getD i6 (0, 0)).2))] ++ (zs z 66 15 ++ [undef])))) ?_
  refine wO (d_call (xl := [.tmp 61, .tmp 63, .tmp 65]) (al := [(ptr Lq.bN 0), (eI ((lb.getD i6 (0, 0)).1)), (eI ((lb.getD i6 (0, 0)).2))]) Try.func40 kr rfl rfl rfl (there_ok Lq s6 _ hN (r := (s6.there ((lb.getD i6 (0, 0)).1) ((lb.getD i6 (0, 0)).2))) ((lb.getD i6 (0, 0)).1) ((lb.getD i6 (0, 0)).2) rfl)) ?_
  rintro _ w69 ⟨rfl, o70⟩
  replace hN := hN.step0 o70
  replace h2 := h2.step0 o70
  replace f61 := f61.step0 o70
  replace a67 := a67.step0 o70
  replace oW := oW.tail0 o70
  replace o57 := o57.tail0 o70
  refine wI (d_not rfl rfl) ?_
  refine wD (tN ?_)
  refine cond_b rfl (fun c93 => ?_) (fun c93 => ?_)
  ·
   refine wQ (pL ?_)
   refine wI (d_assign rfl) ?_
   refine wI (d_assign rfl) ?_
   refine wD (tN ?_)
   refine wpIn_ret ?_
   refine then_r (inb_r (then_r (then_r (inb_r (then_r ?_)))))
   refine leave0 (v := (Value.tuple #[(Value.pointer none), (eN 1)])) (res2 Try.results13 rfl rfl) ?_
   have hE_ : newE D B lb = 1 := newE_no (i := i6) oo (fun t => by rw [(inR_there hS (lb.getD i6 (0, 0))).2 t] at c93; cases c93)
   exact ⟨_, by rw [hE_], oW, fun e => by rw [hE_] at e; cases e⟩
  refine wK (tN ?_)
  have ht_ := (inR_there hS (lb.getD i6 (0, 0))).1 (by simpa using c93)
  obtain ⟨x1, ex1⟩ := Int.eq_ofNat_of_zero_le ht_.1.1
  obtain ⟨x2, ex2⟩ := Int.eq_ofNat_of_zero_le ht_.2.1
  have hx1 : x1 < D := by have := ht_.1.2; omega
  have hx2 : x2 < B := by have := ht_.2.2; omega
  have gD6 := hS.i.c.gD
  have gB6 := hS.i.c.gB
  replace a67 : Arr 51 pb [eN x1, eN x2] w69 := by have h_ := a67; rw [show eI (lb.getD i6 (0, 0)).1 = eN x1 from congrArg eI ex1, show eI (lb.getD i6 (0, 0)).2 = eN x2 from congrArg eI ex2] at h_; exact h_
  refine wp_eq (l' := ([(Value.agg #[(eN D), (eN B), (eN Q)]), ub, (ptr gb 0), undef, (z 4), (z 5), (ptr Lq.bN 0), (z 7), undef, (ptr pb 0), (Value.agg #[(eN D), (eN B), (eN Q)]), vT, vF, (Value.agg #[(eN D), (eN B), (eN Q)]), (Value.agg #[(eN D), (eN B), (eN Q)]), (Value.agg #[(eN D), (eN B), (eN Q), (sli db 0 (D * B * Q) (D * B * Q))]), (Value.agg #[(eN D), (eN B), (eN Q)]), (Value.agg #[(eN D), (eN B), (eN Q), (sli zb 0 (D * B * Q) (D * B * Q))]), (Value.agg #[(eN D), (eN B), (eN Q), (eN D), (eN B), (eN Q), (sli db 0 (D * B * Q) (D * B * Q)), (eN D), (eN B), (eN Q), (sli zb 0 (D * B * Q) (D * B * Q)), (Value.slice none 0 0), (eN 0), (Value.slice none 0 0), vF, (eN 0), (eN 0)]), (ptr cb 0), (ptr cb 0), (ptr cb 0), (ptr cb 3), (ptr cb 6), (sli db 0 (D * B * Q) (D * B * Q)), (eN (D * B * Q)), (eN (D * B * Q)), (Value.bool (decide ((D * B * Q) < (D * B * Q))))] ++ (zs z 28 10 ++ [(ptr gb 0), (eN D), (eN j), (Value.bool (decide (j < D)))] ++ (zs z 42 13 ++ [ub, (eN lb.length), (eN i6), (Value.bool (decide (i6 < lb.length))), u60, (Value.agg #[(eI ((lb.getD i6 (0, 0)).1)), (eI ((lb.getD i6 (0, 0)).2))]), (ptr Lq.bN 0), (ptr pb 0), (eI ((lb.getD i6 (0, 0)).1)), (ptr pb 1), (eI ((lb.getD i6 (0, 0)).2)), (Value.bool (s6.there ((lb.getD i6 (0, 0)).1) ((lb.getD i6 (0, 0)).2))), (Value.bool (!(s6.there ((lb.getD i6 (0, 0)).1) ((lb.getD i6 (0, 0)).2))))] ++ (zs z 68 13 ++ [undef]))))) rfl ?_
  refine drawnT (O := (Or1 pb (Ors Lq.S No))) (n := 13) 10 [0, 1, 3, 7, 0, 16, 63, 127, 0, 256, 1023, 2047, 4095] [(0, 68), (1, 69), (2, 70), (3, 71), (4, 72), (5, 73), (6, 74), (7, 75), (8, 76), (9, 77), (10, 78), (11, 79)] [(0, 68), (1, 69), (2, 70), (3, 71), (4, 72), (5, 73), (6, 74), (7, 75), (8, 76), (9, 77)] [0, 1, 2, 3, 4, 5, 6, 7, 8, 9] [] (fun i_ => ([RF.is (Or1 pb (Ors Lq.S No)) (ptr Lq.bN 0), RF.is (Or1 pb (Ors Lq.S No)) (ptr Lq.bN 0), RF.is (Or1 pb (Ors Lq.S No)) (ptr Lq.bN 11), RF.is (Or1 pb (Ors Lq.S No)) Lq.ub, RF.is (Or1 pb (Ors Lq.S No)) (ptr pb 0), RF.is (Or1 pb (Ors Lq.S No)) (eN x1), RF.is (Or1 pb (Ors Lq.S No)) (ixp Lq.ub x1), RF.is (Or1 pb (Ors Lq.S No)) (sli (Lq.bk.getD x1 0) 0 s6.gB s6.gB), RF.is (Or1 pb (Ors Lq.S No)) (ptr pb 1), RF.is (Or1 pb (Ors Lq.S No)) (eN x2)] : List (RF (Or1 pb (Ors Lq.S No)))).getD i_ (RF.any (Or1 pb (Ors Lq.S No)))) (fun _ w_ => Arr 51 pb [(eN x1), (eN x2)] w_ ∧ Nd Lq s6 (Or1 pb (Old W.heap.size)) w_) (fun v71 => ([(Value.agg #[(eN D), (eN B), (eN Q)]), ub, (ptr gb 0), undef, (z 4), (z 5), (ptr Lq.bN 0), (z 7), undef, (ptr pb 0), (Value.agg #[(eN D), (eN B), (eN Q)]), vT, vF, (Value.agg #[(eN D), (eN B), (eN Q)]), (Value.agg #[(eN D), (eN B), (eN Q)]), (Value.agg #[(eN D), (eN B), (eN Q), (sli db 0 (D * B * Q) (D * B * Q))]), (Value.agg #[(eN D), (eN B), (eN Q)]), (Value.agg #[(eN D), (eN B), (eN Q), (sli zb 0 (D * B * Q) (D * B * Q))]), (Value.agg #[(eN D), (eN B), (eN Q), (eN D), (eN B), (eN Q), (sli db 0 (D * B * Q) (D * B * Q)), (eN D), (eN B), (eN Q), (sli zb 0 (D * B * Q) (D * B * Q)), (Value.slice none 0 0), (eN 0), (Value.slice none 0 0), vF, (eN 0), (eN 0)]), (ptr cb 0), (ptr cb 0), (ptr cb 0), (ptr cb 3), (ptr cb 6), (sli db 0 (D * B * Q) (D * B * Q)), (eN (D * B * Q)), (eN (D * B * Q)), (Value.bool (decide ((D * B * Q) < (D * B * Q))))] ++ (zs z 28 10 ++ [(ptr gb 0), (eN D), (eN j), (Value.bool (decide (j < D)))] ++ (zs z 42 13 ++ [ub, (eN lb.length), (eN i6), (Value.bool (decide (i6 < lb.length))), u60, (Value.agg #[(eI ((lb.getD i6 (0, 0)).1)), (eI ((lb.getD i6 (0, 0)).2))]), (ptr Lq.bN 0), (ptr pb 0), (eI ((lb.getD i6 (0, 0)).1)), (ptr pb 1), (eI ((lb.getD i6 (0, 0)).2)), (Value.bool (s6.there ((lb.getD i6 (0, 0)).1) ((lb.getD i6 (0, 0)).2))), (Value.bool (!(s6.there ((lb.getD i6 (0, 0)).1) ((lb.getD i6 (0, 0)).2)))), (v71 0), (v71 1), (v71 2), (v71 3), (v71 4), (v71 5), (v71 6), (v71 7), (v71 8), (v71 9), (v71 10), (v71 11), (z 80), undef])))) (fun v71 => ([(Value.agg #[(eN D), (eN B), (eN Q)]), ub, (ptr gb 0), undef, (z 4), (z 5), (ptr Lq.bN 0), (z 7), undef, (ptr pb 0), (Value.agg #[(eN D), (eN B), (eN Q)]), vT, vF, (Value.agg #[(eN D), (eN B), (eN Q)]), (Value.agg #[(eN D), (eN B), (eN Q)]), (Value.agg #[(eN D), (eN B), (eN Q), (sli db 0 (D * B * Q) (D * B * Q))]), (Value.agg #[(eN D), (eN B), (eN Q)]), (Value.agg #[(eN D), (eN B), (eN Q), (sli zb 0 (D * B * Q) (D * B * Q))]), (Value.agg #[(eN D), (eN B), (eN Q), (eN D), (eN B), (eN Q), (sli db 0 (D * B * Q) (D * B * Q)), (eN D), (eN B), (eN Q), (sli zb 0 (D * B * Q) (D * B * Q)), (Value.slice none 0 0), (eN 0), (Value.slice none 0 0), vF, (eN 0), (eN 0)]), (ptr cb 0), (ptr cb 0), (ptr cb 0), (ptr cb 3), (ptr cb 6), (sli db 0 (D * B * Q) (D * B * Q)), (eN (D * B * Q)), (eN (D * B * Q)), (Value.bool (decide ((D * B * Q) < (D * B * Q))))] ++ (zs z 28 10 ++ [(ptr gb 0), (eN D), (eN j), (Value.bool (decide (j < D)))] ++ (zs z 42 13 ++ [ub, (eN lb.length), (eN i6), (Value.bool (decide (i6 < lb.length))), u60, (Value.agg #[(eI ((lb.getD i6 (0, 0)).1)), (eI ((lb.getD i6 (0, 0)).2))]), (ptr Lq.bN 0), (ptr pb 0), (eI ((lb.getD i6 (0, 0)).1)), (ptr pb 1), (eI ((lb.getD i6 (0, 0)).2)), (Value.bool (s6.there ((lb.getD i6 (0, 0)).1) ((lb.getD i6 (0, 0)).2))), (Value.bool (!(s6.there ((lb.getD i6 (0, 0)).1) ((lb.getD i6 (0, 0)).2)))), (v71 0), (v71 1), (v71 2), (v71 3), (v71 4), (v71 5), (v71 6), (v71 7), (v71 8), (v71 9), (z 78), (z 79), (z 80), undef])))) s_mx kr rfl (by decide) (by rfl) kr kr kr (by rfl) (fun v_ => by kernel_rfl) (fun v_ => by kernel_rfl) (fun _ => fun w_ w2_ h ho => by obtain ⟨r_a67, r_hN⟩ := h; exact ⟨r_a67.step0 ho, r_hN.step0 ho⟩) ⟨a67, hN⟩ ?_ ?_ ?_
  ·
   refine ls_cons ?_ ?_
   ·
    intro v71 lo hi w_ k_ hO hd _ _ hk_ _ hR hold
    obtain ⟨r_a67, r_hN⟩ := hR
    clear hd hold
    refine ⟨_, rfl, gd rfl ?_⟩
    exact Does.is (d_move rfl)
   refine ls_cons ?_ ?_
   ·
    intro v71 lo hi w_ k_ hO hd _ _ hk_ _ hR hold
    obtain ⟨r_a67, r_hN⟩ := hR
    have e0 : v71 0 = (ptr Lq.bN 0) := hd 0 kr
    clear hd hold
    refine ⟨_, rfl, gd rfl ?_⟩
    exact Does.is (d_nilCheck (b := Lq.bN) (o := 0) e0)
   refine ls_cons ?_ ?_
   ·
    intro v71 lo hi w_ k_ hO hd _ _ hk_ _ hR hold
    obtain ⟨r_a67, r_hN⟩ := hR
    have e1 : v71 1 = (ptr Lq.bN 0) := hd 1 kr
    clear hd hold
    refine ⟨_, rfl, gd rfl ?_⟩
    exact Does.is (d_fieldAddr (j := 11) Try.underlying73 rfl s_ti71 (by decide) e1 rfl)
   refine ls_cons ?_ ?_
   ·
    intro v71 lo hi w_ k_ hO hd _ _ hk_ _ hR hold
    obtain ⟨r_a67, r_hN⟩ := hR
    have e2 : v71 2 = (ptr Lq.bN 11) := hd 2 kr
    clear hd hold
    refine ⟨_, rfl, gd rfl ?_⟩
    exact Does.is (nd_ld (v := Lq.ub) r_hN ⟨_, Try.underlying71, rfl⟩ e2 (fun _ => rfl))
   refine ls_cons ?_ ?_
   ·
    intro v71 lo hi w_ k_ hO hd _ _ hk_ _ hR hold
    obtain ⟨r_a67, r_hN⟩ := hR
    clear hd hold
    refine ⟨_, rfl, gd rfl ?_⟩
    exact Does.is (d_indexArr1 (i := 0) Try.underlying51 s_ti3 rfl (show _ = Value.int _ ((0 : Nat) : Int) from rfl) oo)
   refine ls_cons ?_ ?_
   ·
    intro v71 lo hi w_ k_ hO hd _ _ hk_ _ hR hold
    obtain ⟨r_a67, r_hN⟩ := hR
    have e4 : v71 4 = (ptr pb 0) := hd 4 kr
    clear hd hold
    refine ⟨_, rfl, gd rfl ?_⟩
    exact Does.is (d_load (v := (eN x1)) ⟨_, Try.underlying3, rfl⟩ e4 r_a67 rfl)
   refine ls_cons ?_ ?_
   ·
    intro v71 lo hi w_ k_ hO hd _ _ hk_ _ hR hold
    obtain ⟨r_a67, r_hN⟩ := hR
    have e3 : v71 3 = Lq.ub := hd 3 kr
    have e5 : v71 5 = (eN x1) := hd 5 kr
    clear hd hold
    refine ⟨_, rfl, gd rfl ?_⟩
    exact Does.is (nd_ixU (i := x1) r_hN Try.underlying71 s_ti75 e3 (show _ = Value.int _ (x1 : Int) from e5) (by rw [gD6]; exact hx1))
   refine ls_cons ?_ ?_
   ·
    intro v71 lo hi w_ k_ hO hd _ _ hk_ _ hR hold
    obtain ⟨r_a67, r_hN⟩ := hR
    have e6 : v71 6 = (ixp Lq.ub x1) := hd 6 kr
    clear hd hold
    refine ⟨_, rfl, gd rfl ?_⟩
    exact Does.is (nd_ldU (i := x1) r_hN ⟨_, Try.underlying75, rfl⟩ e6 (by rw [gD6]; exact hx1))
   refine ls_cons ?_ ?_
   ·
    intro v71 lo hi w_ k_ hO hd _ _ hk_ _ hR hold
    obtain ⟨r_a67, r_hN⟩ := hR
    clear hd hold
    refine ⟨_, rfl, gd rfl ?_⟩
    exact Does.is (d_indexArr1 (i := 1) Try.underlying51 s_ti3 rfl (show _ = Value.int _ ((1 : Nat) : Int) from rfl) oo)
   refine ls_cons ?_ ?_
   ·
    intro v71 lo hi w_ k_ hO hd _ _ hk_ _ hR hold
    obtain ⟨r_a67, r_hN⟩ := hR
    have e8 : v71 8 = (ptr pb 1) := hd 8 kr
    clear hd hold
    refine ⟨_, rfl, gd rfl ?_⟩
    exact Does.is (d_load (v := (eN x2)) ⟨_, Try.underlying3, rfl⟩ e8 r_a67 rfl)
   exact ls_nil
  ·
   exact ms_nil
  intro v71 lo_ hi_ w72 o73 hd iv_ hR
  have e0 : v71 0 = (ptr Lq.bN 0) := hd 0 (by decide)
  have e1 : v71 1 = (ptr Lq.bN 0) := hd 1 (by decide)
  have e2 : v71 2 = (ptr Lq.bN 11) := hd 2 (by decide)
  have e3 : v71 3 = Lq.ub := hd 3 (by decide)
  have e4 : v71 4 = (ptr pb 0) := hd 4 (by decide)
  have e5 : v71 5 = (eN x1) := hd 5 (by decide)
  have e6 : v71 6 = (ixp Lq.ub x1) := hd 6 (by decide)
  have e7 : v71 7 = (sli (Lq.bk.getD x1 0) 0 s6.gB s6.gB) := hd 7 (by decide)
  have e8 : v71 8 = (ptr pb 1) := hd 8 (by decide)
  have e9 : v71 9 = (eN x2) := hd 9 (by decide)
  clear hd iv_ lo_ hi_
  refine wpL.flat ([(Value.agg #[(eN D), (eN B), (eN Q)]), ub, (ptr gb 0), undef, (z 4), (z 5), (ptr Lq.bN 0), (z 7), undef, (ptr pb 0), (Value.agg #[(eN D), (eN B), (eN Q)]), vT, vF, (Value.agg #[(eN D), (eN B), (eN Q)]), (Value.agg #[(eN D), (eN B), (eN Q)]), (Value.agg #[(eN D), (eN B), (eN Q), (sli db 0 (D * B * Q) (D * B * Q))]), (Value.agg #[(eN D), (eN B), (eN Q)]), (Value.agg #[(eN D), (eN B), (eN Q), (sli zb 0 (D * B * Q) (D * B * Q))]), (Value.agg #[(eN D), (eN B), (eN Q), (eN D), (eN B), (eN Q), (sli db 0 (D * B * Q) (D * B * Q)), (eN D), (eN B), (eN Q), (sli zb 0 (D * B * Q) (D * B * Q)), (Value.slice none 0 0), (eN 0), (Value.slice none 0 0), vF, (eN 0), (eN 0)]), (ptr cb 0), (ptr cb 0), (ptr cb 0), (ptr cb 3), (ptr cb 6), (sli db 0 (D * B * Q) (D * B * Q)), (eN (D * B * Q)), (eN (D * B * Q)), (Value.bool (decide ((D * B * Q) < (D * B * Q))))] ++ (zs z 28 10 ++ [(ptr gb 0), (eN D), (eN j), (Value.bool (decide (j < D)))] ++ (zs z 42 13 ++ [ub, (eN lb.length), (eN i6), (Value.bool (decide (i6 < lb.length))), u60, (Value.agg #[(eI ((lb.getD i6 (0, 0)).1)), (eI ((lb.getD i6 (0, 0)).2))]), (ptr Lq.bN 0), (ptr pb 0), (eI ((lb.getD i6 (0, 0)).1)), (ptr pb 1), (eI ((lb.getD i6 (0, 0)).2)), (Value.bool (s6.there ((lb.getD i6 (0, 0)).1) ((lb.getD i6 (0, 0)).2))), (Value.bool (!(s6.there ((lb.getD i6 (0, 0)).1) ((lb.getD i6 (0, 0)).2)))), (ptr Lq.bN 0), (ptr Lq.bN 0), (ptr Lq.bN 11), Lq.ub, (ptr pb 0), (eN x1), (ixp Lq.ub x1), (sli (Lq.bk.getD x1 0) 0 s6.gB s6.gB), (ptr pb 1), (eN x2), (z 78), (z 79), (z 80), undef]))) (by rw [e0, e1, e2, e3, e4, e5, e6, e7, e8, e9] <;> rfl) ?_
  clear e0 e1 e2 e3 e4 e5 e6 e7 e8 e9
  replace h2 := h2.step o73 (or1_mono (ors_mono no_any))
  replace f61 := f61.step o73 (or1_mono (ors_mono no_any))
  obtain ⟨xr_a67, xr_hN⟩ := hR
  replace a67 : Arr 51 pb [(eN x1), (eN x2)] w72 := xr_a67
  replace hN := xr_hN
  clear xr_a67 xr_hN
  replace oW := oW.tail o73 (tl_new g_oW_pb (tl_snew g_oW_Lq tl_no))
  replace o57 := o57.tail o73 (tl_new g_o57_pb (tl_sin sub1 tl_no))
  refine wI (d_index (b := (Lq.bk.getD x1 0)) (o := 0) (n := s6.gB) (c := s6.gB) (j := (x2 * 3)) Try.underlying75 s_ti77 rfl (show _ = Value.int _ (x2 : Int) from rfl) oo (by rw [gB6]; exact_mod_cast hx2) (by simp)) ?_
  refine wI (d_fieldAddr (j := x2 * 3 + 2) Try.underlying77 rfl s_ti4 (by decide) rfl rfl) ?_
  refine wO (nd_stS (i := x1) (j := x2) (f := 2) (x' := { s6.bl x1 x2 with bad := true }) hN s_ti4 rfl rfl rfl (by rw [gD6]; exact hx1) (by rw [gB6]; exact hx2) (by decide) rfl (hN.ok.nx _ _)) ?_
  rintro _ w74 ⟨a75, o76⟩
  replace a67 := a67.step o76 (hN.dis _ in1)
  replace h2 := h2.step o76 (sub2 sub1)
  replace f61 := f61.step o76 (sub2 sub1)
  replace oW := oW.tail o76 (fun k hk e => by have := g_oW_Lq k e; omega)
  replace o57 := o57.tail o76 (fun k _ e => sub1 k e)
  replace hN := a75
  refine wF ([(Value.agg #[(eN D), (eN B), (eN Q)]), ub, (ptr gb 0), undef, (z 4), (z 5), (ptr Lq.bN 0), (z 7), undef, (ptr pb 0), (Value.agg #[(eN D), (eN B), (eN Q)]), vT, vF, (Value.agg #[(eN D), (eN B), (eN Q)]), (Value.agg #[(eN D), (eN B), (eN Q)]), (Value.agg #[(eN D), (eN B), (eN Q), (sli db 0 (D * B * Q) (D * B * Q))]), (Value.agg #[(eN D), (eN B), (eN Q)]), (Value.agg #[(eN D), (eN B), (eN Q), (sli zb 0 (D * B * Q) (D * B * Q))]), (Value.agg #[(eN D), (eN B), (eN Q), (eN D), (eN B), (eN Q), (sli db 0 (D * B * Q) (D * B * Q)), (eN D), (eN B), (eN Q), (sli zb 0 (D * B * Q) (D * B * Q)), (Value.slice none 0 0), (eN 0), (Value.slice none 0 0), vF, (eN 0), (eN 0)]), (ptr cb 0), (ptr cb 0), (ptr cb 0), (ptr cb 3), (ptr cb 6), (sli db 0 (D * B * Q) (D * B * Q)), (eN (D * B * Q)), (eN (D * B * Q)), (Value.bool (decide ((D * B * Q) < (D * B * Q))))] ++ (zs z 28 10 ++ [(ptr gb 0), (eN D), (eN j), (Value.bool (decide (j < D)))] ++ (zs z 42 13 ++ [ub, (eN lb.length), (eN i6), (Value.bool (decide (i6 < lb.length))), u60, (Value.agg #[(eI ((lb.getD i6 (0, 0)).1)), (eI ((lb.getD i6 (0, 0)).2))]), (ptr Lq.bN 0), (ptr pb 0), (eI ((lb.getD i6 (0, 0)).1)), (ptr pb 1), (eI ((lb.getD i6 (0, 0)).2)), (Value.bool (s6.there ((lb.getD i6 (0, 0)).1) ((lb.getD i6 (0, 0)).2))), (Value.bool (!(s6.there ((lb.getD i6 (0, 0)).1) ((lb.getD i6 (0, 0)).2)))), (ptr Lq.bN 0), (ptr Lq.bN 0), (ptr Lq.bN 11), Lq.ub, (ptr pb 0), (eN x1), (ixp Lq.ub x1), (sli (Lq.bk.getD x1 0) 0 s6.gB s6.gB), (ptr pb 1), (eN x2), (ptr (Lq.bk.getD x1 0) (x2 * 3)), (ptr (Lq.bk.getD x1 0) (x2 * 3 + 2)), (z 80), undef]))) ?_
  refine wD ?_
  refine inb_n (tN ?_)
  refine pL ?_
  refine wI (n_add (a := i6) (b := 1) rfl rfl oo) ?_
  refine wI (d_move rfl) ?_
  refine wD (tN ?_)
  refine ⟨_, ⟨i6 + 1, (s6.setB x1 x2 { s6.bl x1 x2 with bad := true })⟩, rfl, kr, ⟨?_, ?_, ?_, ?_⟩, ?_⟩
  ·
   (try dsimp only)
   all_goals (omega)
  ·
   exact newJ_step hS oo ex1 ex2 hx1 hx2
  ·
   exact o57
  ·
   exact hN.less (xx_skip xx_id)
  ·
   (try dsimp only)
   all_goals (omega)
 refine wpIn_exit ?_
 refine then_x (then_x (inb_e ?_))
 refine tN (wQ (pL ?_))
 refine wI (d_move rfl) ?_
 refine wI (d_assign rfl) ?_
 refine wI (d_assign rfl) ?_
 refine wD (tN ?_)
 refine wpIn_ret ?_
 refine leave0 (v := (Value.tuple #[(ptr Lq.bN 0), (eN 0)])) (res2 Try.results13 rfl rfl) ?_
 have hi_ : i6 = lb.length := by omega
 rw [hi_, List.take_length] at hS
 have hE_ := newE_ok hS.r
 exact ⟨_, by rw [hE_], oW, fun _ => ⟨Lq, s6, rfl, ⟨hN, hfr⟩, hS⟩⟩
theorem nandFitsI_ok (a b c : Int) {r : Bool} (W : World) (hr : decide (fitsA a b c) = r) :
    CW Try.prog 36 #[(Value.agg #[(eI a), (eI b), (eI c)])] W (Rt (RIs (.bool r) W)) := by
 have oW : Only No W W := Only.refl _ _
 refine enter (al := [(Value.agg #[(eI a), (eI b), (eI c)])]) (k := 30) (l := ([(Value.agg #[(eI a), (eI b), (eI c)])] ++ (us 30))) Try.func36 rfl Try.ntmps36 rfl rfl ?_
 refine wQ (pL ?_)
 refine wO (d_box rfl rfl) ?_
 rintro _ w12 ⟨b11, rfl, g13, a14, o15⟩
 have g_oW_b11 : W.heap.size ≤ b11 := Nat.le_trans oW.size g13
 replace oW := oW.tail0 o15
 refine wI (d_assign rfl) ?_
 refine wD (tN (wQ ?_))
 by_cases k0 : 6 ≤ a
 ·
  by_cases k1 : a ≤ 8
  ·
   by_cases k2 : 8 ≤ b
   ·
    by_cases k3 : b ≤ 12
    ·
     by_cases k4 : 4 ≤ c
     ·
      by_cases k5 : c ≤ 8
      ·
       refine pL ?_
       refine wI (d_fieldAddr (j := 0) Try.underlying23 rfl s_ti3 (by decide) rfl rfl) ?_
       refine wI (d_load (v := (eI a)) ⟨_, Try.underlying3, rfl⟩ rfl a14 rfl) ?_
       refine wI (d_geq (k := .i64) (m := a) (n := 6) rfl rfl (decide_eq_true k0)) ?_
       refine wF ([(Value.agg #[(eI a), (eI b), (eI c)]), (ptr b11 0), vF, (ptr b11 0), (eI a), vT] ++ (us 25)) ?_
       refine wI (d_move rfl) ?_
       refine wG (d_fieldAddr (j := 0) Try.underlying23 rfl s_ti3 (by decide) rfl rfl) ?_
       refine wG (d_load (v := (eI a)) ⟨_, Try.underlying3, rfl⟩ rfl a14 rfl) ?_
       refine wG (d_leq (k := .i64) (m := a) (n := 8) rfl rfl (decide_eq_true k1)) ?_
       refine wI (d_pick (b := true) (v := vT) rfl rfl) ?_
       refine wF ([(Value.agg #[(eI a), (eI b), (eI c)]), (ptr b11 0), vF, (ptr b11 0), (eI a), vT, vT, (ptr b11 0), (eI a), vT, vT] ++ (us 20)) ?_
       refine wI (d_move rfl) ?_
       refine wG (d_fieldAddr (j := 1) Try.underlying23 rfl s_ti3 (by decide) rfl rfl) ?_
       refine wG (d_load (v := (eI b)) ⟨_, Try.underlying3, rfl⟩ rfl a14 rfl) ?_
       refine wG (d_geq (k := .i64) (m := b) (n := 8) rfl rfl (decide_eq_true k2)) ?_
       refine wI (d_pick (b := true) (v := vT) rfl rfl) ?_
       refine wF ([(Value.agg #[(eI a), (eI b), (eI c)]), (ptr b11 0), vF, (ptr b11 0), (eI a), vT, vT, (ptr b11 0), (eI a), vT, vT, vT, (ptr b11 1), (eI b), vT, vT] ++ (us 15)) ?_
       refine wI (d_move rfl) ?_
       refine wG (d_fieldAddr (j := 1) Try.underlying23 rfl s_ti3 (by decide) rfl rfl) ?_
       refine wG (d_load (v := (eI b)) ⟨_, Try.underlying3, rfl⟩ rfl a14 rfl) ?_
       refine wG (d_leq (k := .i64) (m := b) (n := 12) rfl rfl (decide_eq_true k3)) ?_
       refine wI (d_pick (b := true) (v := vT) rfl rfl) ?_
       refine wF ([(Value.agg #[(eI a), (eI b), (eI c)]), (ptr b11 0), vF, (ptr b11 0), (eI a), vT, vT, (ptr b11 0), (eI a), vT, vT, vT, (ptr b11 1), (eI b), vT, vT, vT, (ptr b11 1), (eI b), vT, vT] ++ (us 10)) ?_
       refine wI (d_move rfl) ?_
       refine wG (d_fieldAddr (j := 2) Try.underlying23 rfl s_ti3 (by decide) rfl rfl) ?_
       refine wG (d_load (v := (eI c)) ⟨_, Try.underlying3, rfl⟩ rfl a14 rfl) ?_
       refine wG (d_geq (k := .i64) (m := c) (n := 4) rfl rfl (decide_eq_true k4)) ?_
       refine wI (d_pick (b := true) (v := vT) rfl rfl) ?_
       refine wF ([(Value.agg #[(eI a), (eI b), (eI c)]), (ptr b11 0), vF, (ptr b11 0), (eI a), vT, vT, (ptr b11 0), (eI a), vT, vT, vT, (ptr b11 1), (eI b), vT, vT, vT, (ptr b11 1), (eI b), vT, vT, vT, (ptr b11 2), (eI c), vT, vT] ++ (us 5)) ?_
       refine wI (d_move rfl) ?_
       refine wG (d_fieldAddr (j := 2) Try.underlying23 rfl s_ti3 (by decide) rfl rfl) ?_
       refine wG (d_load (v := (eI c)) ⟨_, Try.underlying3, rfl⟩ rfl a14 rfl) ?_
       refine wG (d_leq (k := .i64) (m := c) (n := 8) rfl rfl (decide_eq_true k5)) ?_
       refine wI (d_pick (b := true) (v := vT) rfl rfl) ?_
       refine wF [(Value.agg #[(eI a), (eI b), (eI c)]), (ptr b11 0), vF, (ptr b11 0), (eI a), vT, vT, (ptr b11 0), (eI a), vT, vT, vT, (ptr b11 1), (eI b), vT, vT, vT, (ptr b11 1), (eI b), vT, vT, vT, (ptr b11 2), (eI c), vT, vT, vT, (ptr b11 2), (eI c), vT, vT] ?_
       refine wI (d_assign rfl) ?_
       refine wD (tN ?_)
       refine forget (fun zf16 => ([(zf16 0), (zf16 1), vT] ++ (zs zf16 3 28))) kr (fun zf16 => ?_)
       refine wpIn_ret ?_
       refine leave0 (v := vT) (res1 Try.results36 rfl) ?_
       exact ⟨congrArg Value.bool (by rw [← hr]; simp [fitsA, *]), oW⟩
      refine pL ?_
      refine wI (d_fieldAddr (j := 0) Try.underlying23 rfl s_ti3 (by decide) rfl rfl) ?_
      refine wI (d_load (v := (eI a)) ⟨_, Try.underlying3, rfl⟩ rfl a14 rfl) ?_
      refine wI (d_geq (k := .i64) (m := a) (n := 6) rfl rfl (decide_eq_true k0)) ?_
      refine wF ([(Value.agg #[(eI a), (eI b), (eI c)]), (ptr b11 0), vF, (ptr b11 0), (eI a), vT] ++ (us 25)) ?_
      refine wI (d_move rfl) ?_
      refine wG (d_fieldAddr (j := 0) Try.underlying23 rfl s_ti3 (by decide) rfl rfl) ?_
      refine wG (d_load (v := (eI a)) ⟨_, Try.underlying3, rfl⟩ rfl a14 rfl) ?_
      refine wG (d_leq (k := .i64) (m := a) (n := 8) rfl rfl (decide_eq_true k1)) ?_
      refine wI (d_pick (b := true) (v := vT) rfl rfl) ?_
      refine wF ([(Value.agg #[(eI a), (eI b), (eI c)]), (ptr b11 0), vF, (ptr b11 0), (eI a), vT, vT, (ptr b11 0), (eI a), vT, vT] ++ (us 20)) ?_
      refine wI (d_move rfl) ?_
      refine wG (d_fieldAddr (j := 1) Try.underlying23 rfl s_ti3 (by decide) rfl rfl) ?_
      refine wG (d_load (v := (eI b)) ⟨_, Try.underlying3, rfl⟩ rfl a14 rfl) ?_
      refine wG (d_geq (k := .i64) (m := b) (n := 8) rfl rfl (decide_eq_true k2)) ?_
      refine wI (d_pick (b := true) (v := vT) rfl rfl) ?_
      refine wF ([(Value.agg #[(eI a), (eI b), (eI c)]), (ptr b11 0), vF, (ptr b11 0), (eI a), vT, vT, (ptr b11 0), (eI a), vT, vT, vT, (ptr b11 1), (eI b), vT, vT] ++ (us 15)) ?_
      refine wI (d_move rfl) ?_
      refine wG (d_fieldAddr (j := 1) Try.underlying23 rfl s_ti3 (by decide) rfl rfl) ?_
      refine wG (d_load (v := (eI b)) ⟨_, Try.underlying3, rfl⟩ rfl a14 rfl) ?_
      refine wG (d_leq (k := .i64) (m := b) (n := 12) rfl rfl (decide_eq_true k3)) ?_
      refine wI (d_pick (b := true) (v := vT) rfl rfl) ?_
      refine wF ([(Value.agg #[(eI a), (eI b), (eI c)]), (ptr b11 0), vF, (ptr b11 0), (eI a), vT, vT, (ptr b11 0), (eI a), vT, vT, vT, (ptr b11 1), (eI b), vT, vT, vT, (ptr b11 1), (eI b), vT, vT] ++ (us 10)) ?_
      refine wI (d_move rfl) ?_
      refine wG (d_fieldAddr (j := 2) Try.underlying23 rfl s_ti3 (by decide) rfl rfl) ?_
      refine wG (d_load (v := (eI c)) ⟨_, Try.underlying3, rfl⟩ rfl a14 rfl) ?_
      refine wG (d_geq (k := .i64) (m := c) (n := 4) rfl rfl (decide_eq_true k4)) ?_
      refine wI (d_pick (b := true) (v := vT) rfl rfl) ?_
      refine wF ([(Value.agg #[(eI a), (eI b), (eI c)]), (ptr b11 0), vF, (ptr b11 0), (eI a), vT, vT, (ptr b11 0), (eI a), vT, vT, vT, (ptr b11 1), (eI b), vT, vT, vT, (ptr b11 1), (eI b), vT, vT, vT, (ptr b11 2), (eI c), vT, vT] ++ (us 5)) ?_
      refine wI (d_move rfl) ?_
      refine wG (d_fieldAddr (j := 2) Try.underlying23 rfl s_ti3 (by decide) rfl rfl) ?_
      refine wG (d_load (v := (eI c)) ⟨_, Try.underlying3, rfl⟩ rfl a14 rfl) ?_
      refine wG (d_leq (k := .i64) (m := c) (n := 8) rfl rfl (decide_eq_false k5)) ?_
      refine wI (d_pick (b := true) (v := vF) rfl rfl) ?_
      refine wF [(Value.agg #[(eI a), (eI b), (eI c)]), (ptr b11 0), vF, (ptr b11 0), (eI a), vT, vT, (ptr b11 0), (eI a), vT, vT, vT, (ptr b11 1), (eI b), vT, vT, vT, (ptr b11 1), (eI b), vT, vT, vT, (ptr b11 2), (eI c), vT, vT, vT, (ptr b11 2), (eI c), vF, vF] ?_
      refine wI (d_assign rfl) ?_
      refine wD (tN ?_)
      refine forget (fun zf17 => ([(zf17 0), (zf17 1), vF] ++ (zs zf17 3 28))) kr (fun zf17 => ?_)
      refine wpIn_ret ?_
      refine leave0 (v := vF) (res1 Try.results36 rfl) ?_
      exact ⟨congrArg Value.bool (by rw [← hr]; simp [fitsA, *]), oW⟩
     refine pL ?_
     refine wI (d_fieldAddr (j := 0) Try.underlying23 rfl s_ti3 (by decide) rfl rfl) ?_
     refine wI (d_load (v := (eI a)) ⟨_, Try.underlying3, rfl⟩ rfl a14 rfl) ?_
     refine wI (d_geq (k := .i64) (m := a) (n := 6) rfl rfl (decide_eq_true k0)) ?_
     refine wF ([(Value.agg #[(eI a), (eI b), (eI c)]), (ptr b11 0), vF, (ptr b11 0), (eI a), vT] ++ (us 25)) ?_
     refine wI (d_move rfl) ?_
     refine wG (d_fieldAddr (j := 0) Try.underlying23 rfl s_ti3 (by decide) rfl rfl) ?_
     refine wG (d_load (v := (eI a)) ⟨_, Try.underlying3, rfl⟩ rfl a14 rfl) ?_
     refine wG (d_leq (k := .i64) (m := a) (n := 8) rfl rfl (decide_eq_true k1)) ?_
     refine wI (d_pick (b := true) (v := vT) rfl rfl) ?_
     refine wF ([(Value.agg #[(eI a), (eI b), (eI c)]), (ptr b11 0), vF, (ptr b11 0), (eI a), vT, vT, (ptr b11 0), (eI a), vT, vT] ++ (us 20)) ?_
     refine wI (d_move rfl) ?_
     refine wG (d_fieldAddr (j := 1) Try.underlying23 rfl s_ti3 (by decide) rfl rfl) ?_
     refine wG (d_load (v := (eI b)) ⟨_, Try.underlying3, rfl⟩ rfl a14 rfl) ?_
     refine wG (d_geq (k := .i64) (m := b) (n := 8) rfl rfl (decide_eq_true k2)) ?_
     refine wI (d_pick (b := true) (v := vT) rfl rfl) ?_
     refine wF ([(Value.agg #[(eI a), (eI b), (eI c)]), (ptr b11 0), vF, (ptr b11 0), (eI a), vT, vT, (ptr b11 0), (eI a), vT, vT, vT, (ptr b11 1), (eI b), vT, vT] ++ (us 15)) ?_
     refine wI (d_move rfl) ?_
     refine wG (d_fieldAddr (j := 1) Try.underlying23 rfl s_ti3 (by decide) rfl rfl) ?_
     refine wG (d_load (v := (eI b)) ⟨_, Try.underlying3, rfl⟩ rfl a14 rfl) ?_
     refine wG (d_leq (k := .i64) (m := b) (n := 12) rfl rfl (decide_eq_true k3)) ?_
     refine wI (d_pick (b := true) (v := vT) rfl rfl) ?_
     refine wF ([(Value.agg #[(eI a), (eI b), (eI c)]), (ptr b11 0), vF, (ptr b11 0), (eI a), vT, vT, (ptr b11 0), (eI a), vT, vT, vT, (ptr b11 1), (eI b), vT, vT, vT, (ptr b11 1), (eI b), vT, vT] ++ (us 10)) ?_
     refine wI (d_move rfl) ?_
     refine wG (d_fieldAddr (j := 2) Try.underlying23 rfl s_ti3 (by decide) rfl rfl) ?_
     refine wG (d_load (v := (eI c)) ⟨_, Try.underlying3, rfl⟩ rfl a14 rfl) ?_
     refine wG (d_geq (k := .i64) (m := c) (n := 4) rfl rfl (decide_eq_false k4)) ?_
     refine wI (d_pick (b := true) (v := vF) rfl rfl) ?_
     refine wF ([(Value.agg #[(eI a), (eI b), (eI c)]), (ptr b11 0), vF, (ptr b11 0), (eI a), vT, vT, (ptr b11 0), (eI a), vT, vT, vT, (ptr b11 1), (eI b), vT, vT, vT, (ptr b11 1), (eI b), vT, vT, vT, (ptr b11 2), (eI c), vF, vF] ++ (us 5)) ?_
     refine wI (d_move rfl) ?_
     refine wX ?_
     refine wX ?_
     refine wX ?_
     refine wI (d_pick (b := false) (v := vF) rfl rfl) ?_
     refine wF [(Value.agg #[(eI a), (eI b), (eI c)]), (ptr b11 0), vF, (ptr b11 0), (eI a), vT, vT, (ptr b11 0), (eI a), vT, vT, vT, (ptr b11 1), (eI b), vT, vT, vT, (ptr b11 1), (eI b), vT, vT, vT, (ptr b11 2), (eI c), vF, vF, vF, undef, undef, undef, vF] ?_
     refine wI (d_assign rfl) ?_
     refine wD (tN ?_)
     refine forget (fun zf18 => ([(zf18 0), (zf18 1), vF] ++ (zs zf18 3 28))) kr (fun zf18 => ?_)
     refine wpIn_ret ?_
     refine leave0 (v := vF) (res1 Try.results36 rfl) ?_
     exact ⟨congrArg Value.bool (by rw [← hr]; simp [fitsA, *]), oW⟩
    refine pL ?_
    refine wI (d_fieldAddr (j := 0) Try.underlying23 rfl s_ti3 (by decide) rfl rfl) ?_
    refine wI (d_load (v := (eI a)) ⟨_, Try.underlying3, rfl⟩ rfl a14 rfl) ?_
    refine wI (d_geq (k := .i64) (m := a) (n := 6) rfl rfl (decide_eq_true k0)) ?_
    refine wF ([(Value.agg #[(eI a), (eI b), (eI c)]), (ptr b11 0), vF, (ptr b11 0), (eI a), vT] ++ (us 25)) ?_
    refine wI (d_move rfl) ?_
    refine wG (d_fieldAddr (j := 0) Try.underlying23 rfl s_ti3 (by decide) rfl rfl) ?_
    refine wG (d_load (v := (eI a)) ⟨_, Try.underlying3, rfl⟩ rfl a14 rfl) ?_
    refine wG (d_leq (k := .i64) (m := a) (n := 8) rfl rfl (decide_eq_true k1)) ?_
    refine wI (d_pick (b := true) (v := vT) rfl rfl) ?_
    refine wF ([(Value.agg #[(eI a), (eI b), (eI c)]), (ptr b11 0), vF, (ptr b11 0), (eI a), vT, vT, (ptr b11 0), (eI a), vT, vT] ++ (us 20)) ?_
    refine wI (d_move rfl) ?_
    refine wG (d_fieldAddr (j := 1) Try.underlying23 rfl s_ti3 (by decide) rfl rfl) ?_
    refine wG (d_load (v := (eI b)) ⟨_, Try.underlying3, rfl⟩ rfl a14 rfl) ?_
    refine wG (d_geq (k := .i64) (m := b) (n := 8) rfl rfl (decide_eq_true k2)) ?_
    refine wI (d_pick (b := true) (v := vT) rfl rfl) ?_
    refine wF ([(Value.agg #[(eI a), (eI b), (eI c)]), (ptr b11 0), vF, (ptr b11 0), (eI a), vT, vT, (ptr b11 0), (eI a), vT, vT, vT, (ptr b11 1), (eI b), vT, vT] ++ (us 15)) ?_
    refine wI (d_move rfl) ?_
    refine wG (d_fieldAddr (j := 1) Try.underlying23 rfl s_ti3 (by decide) rfl rfl) ?_
    refine wG (d_load (v := (eI b)) ⟨_, Try.underlying3, rfl⟩ rfl a14 rfl) ?_
    refine wG (d_leq (k := .i64) (m := b) (n := 12) rfl rfl (decide_eq_false k3)) ?_
    refine wI (d_pick (b := true) (v := vF) rfl rfl) ?_
    refine wF ([(Value.agg #[(eI a), (eI b), (eI c)]), (ptr b11 0), vF, (ptr b11 0), (eI a), vT, vT, (ptr b11 0), (eI a), vT, vT, vT, (ptr b11 1), (eI b), vT, vT, vT, (ptr b11 1), (eI b), vF, vF] ++ (us 10)) ?_
    refine wI (d_move rfl) ?_
    refine wX ?_
    refine wX ?_
    refine wX ?_
    refine wI (d_pick (b := false) (v := vF) rfl rfl) ?_
    refine wF ([(Value.agg #[(eI a), (eI b), (eI c)]), (ptr b11 0), vF, (ptr b11 0), (eI a), vT, vT, (ptr b11 0), (eI a), vT, vT, vT, (ptr b11 1), (eI b), vT, vT, vT, (ptr b11 1), (eI b), vF, vF, vF, undef, undef, undef, vF] ++ (us 5)) ?_
    refine wI (d_move rfl) ?_
    refine wX ?_
    refine wX ?_
    refine wX ?_
    refine wI (d_pick (b := false) (v := vF) rfl rfl) ?_
    refine wF [(Value.agg #[(eI a), (eI b), (eI c)]), (ptr b11 0), vF, (ptr b11 0), (eI a), vT, vT, (ptr b11 0), (eI a), vT, vT, vT, (ptr b11 1), (eI b), vT, vT, vT, (ptr b11 1), (eI b), vF, vF, vF, undef, undef, undef, vF, vF, undef, undef, undef, vF] ?_
    refine wI (d_assign rfl) ?_
    refine wD (tN ?_)
    refine forget (fun zf19 => ([(zf19 0), (zf19 1), vF] ++ (zs zf19 3 28))) kr (fun zf19 => ?_)
    refine wpIn_ret ?_
    refine leave0 (v := vF) (res1 Try.results36 rfl) ?_
    exact ⟨congrArg Value.bool (by rw [← hr]; simp [fitsA, *]), oW⟩
   refine pL ?_
   refine wI (d_fieldAddr (j := 0) Try.underlying23 rfl s_ti3 (by decide) rfl rfl) ?_
   refine wI (d_load (v := (eI a)) ⟨_, Try.underlying3, rfl⟩ rfl a14 rfl) ?_
   refine wI (d_geq (k := .i64) (m := a) (n := 6) rfl rfl (decide_eq_true k0)) ?_
   refine wF ([(Value.agg #[(eI a), (eI b), (eI c)]), (ptr b11 0), vF, (ptr b11 0), (eI a), vT] ++ (us 25)) ?_
   refine wI (d_move rfl) ?_
   refine wG (d_fieldAddr (j := 0) Try.underlying23 rfl s_ti3 (by decide) rfl rfl) ?_
   refine wG (d_load (v := (eI a)) ⟨_, Try.underlying3, rfl⟩ rfl a14 rfl) ?_
   refine wG (d_leq (k := .i64) (m := a) (n := 8) rfl rfl (decide_eq_true k1)) ?_
   refine wI (d_pick (b := true) (v := vT) rfl rfl) ?_
   refine wF ([(Value.agg #[(eI a), (eI b), (eI c)]), (ptr b11 0), vF, (ptr b11 0), (eI a), vT, vT, (ptr b11 0), (eI a), vT, vT] ++ (us 20)) ?_
   refine wI (d_move rfl) ?_
   refine wG (d_fieldAddr (j := 1) Try.underlying23 rfl s_ti3 (by decide) rfl rfl) ?_
   refine wG (d_load (v := (eI b)) ⟨_, Try.underlying3, rfl⟩ rfl a14 rfl) ?_
   refine wG (d_geq (k := .i64) (m := b) (n := 8) rfl rfl (decide_eq_false k2)) ?_
   refine wI (d_pick (b := true) (v := vF) rfl rfl) ?_
   refine wF ([(Value.agg #[(eI a), (eI b), (eI c)]), (ptr b11 0), vF, (ptr b11 0), (eI a), vT, vT, (ptr b11 0), (eI a), vT, vT, vT, (ptr b11 1), (eI b), vF, vF] ++ (us 15)) ?_
   refine wI (d_move rfl) ?_
   refine wX ?_
   refine wX ?_
   refine wX ?_
   refine wI (d_pick (b := false) (v := vF) rfl rfl) ?_
   refine wF ([(Value.agg #[(eI a), (eI b), (eI c)]), (ptr b11 0), vF, (ptr b11 0), (eI a), vT, vT, (ptr b11 0), (eI a), vT, vT, vT, (ptr b11 1), (eI b), vF, vF, vF, undef, undef, undef, vF] ++ (us 10)) ?_
   refine wI (d_move rfl) ?_
   refine wX ?_
   refine wX ?_
   refine wX ?_
   refine wI (d_pick (b := false) (v := vF) rfl rfl) ?_
   refine wF ([(Value.agg #[(eI a), (eI b), (eI c)]), (ptr b11 0), vF, (ptr b11 0), (eI a), vT, vT, (ptr b11 0), (eI a), vT, vT, vT, (ptr b11 1), (eI b), vF, vF, vF, undef, undef, undef, vF, vF, undef, undef, undef, vF] ++ (us 5)) ?_
   refine wI (d_move rfl) ?_
   refine wX ?_
   refine wX ?_
   refine wX ?_
   refine wI (d_pick (b := false) (v := vF) rfl rfl) ?_
   refine wF [(Value.agg #[(eI a), (eI b), (eI c)]), (ptr b11 0), vF, (ptr b11 0), (eI a), vT, vT, (ptr b11 0), (eI a), vT, vT, vT, (ptr b11 1), (eI b), vF, vF, vF, undef, undef, undef, vF, vF, undef, undef, undef, vF, vF, undef, undef, undef, vF] ?_
   refine wI (d_assign rfl) ?_
   refine wD (tN ?_)
   refine forget (fun zf20 => ([(zf20 0), (zf20 1), vF] ++ (zs zf20 3 28))) kr (fun zf20 => ?_)
   refine wpIn_ret ?_
   refine leave0 (v := vF) (res1 Try.results36 rfl) ?_
   exact ⟨congrArg Value.bool (by rw [← hr]; simp [fitsA, *]), oW⟩
  refine pL ?_
  refine wI (d_fieldAddr (j := 0) Try.underlying23 rfl s_ti3 (by decide) rfl rfl) ?_
  refine wI (d_load (v := (eI a)) ⟨_, Try.underlying3, rfl⟩ rfl a14 rfl) ?_
  refine wI (d_geq (k := .i64) (m := a) (n := 6) rfl rfl (decide_eq_true k0)) ?_
  refine wF ([(Value.agg #[(eI a), (eI b), (eI c)]), (ptr b11 0), vF, (ptr b11 0), (eI a), vT] ++ (us 25)) ?_
  refine wI (d_move rfl) ?_
  refine wG (d_fieldAddr (j := 0) Try.underlying23 rfl s_ti3 (by decide) rfl rfl) ?_
  refine wG (d_load (v := (eI a)) ⟨_, Try.underlying3, rfl⟩ rfl a14 rfl) ?_
  refine wG (d_leq (k := .i64) (m := a) (n := 8) rfl rfl (decide_eq_false k1)) ?_
  refine wI (d_pick (b := true) (v := vF) rfl rfl) ?_
  refine wF ([(Value.agg #[(eI a), (eI b), (eI c)]), (ptr b11 0), vF, (ptr b11 0), (eI a), vT, vT, (ptr b11 0), (eI a), vF, vF] ++ (us 20)) ?_
  refine wI (d_move rfl) ?_
  refine wX ?_
  refine wX ?_
  refine wX ?_
  refine wI (d_pick (b := false) (v := vF) rfl rfl) ?_
  refine wF ([(Value.agg #[(eI a), (eI b), (eI c)]), (ptr b11 0), vF, (ptr b11 0), (eI a), vT, vT, (ptr b11 0), (eI a), vF, vF, vF, undef, undef, undef, vF] ++ (us 15)) ?_
  refine wI (d_move rfl) ?_
  refine wX ?_
  refine wX ?_
  refine wX ?_
  refine wI (d_pick (b := false) (v := vF) rfl rfl) ?_
  refine wF ([(Value.agg #[(eI a), (eI b), (eI c)]), (ptr b11 0), vF, (ptr b11 0), (eI a), vT, vT, (ptr b11 0), (eI a), vF, vF, vF, undef, undef, undef, vF, vF, undef, undef, undef, vF] ++ (us 10)) ?_
  refine wI (d_move rfl) ?_
  refine wX ?_
  refine wX ?_
  refine wX ?_
  refine wI (d_pick (b := false) (v := vF) rfl rfl) ?_
  refine wF ([(Value.agg #[(eI a), (eI b), (eI c)]), (ptr b11 0), vF, (ptr b11 0), (eI a), vT, vT, (ptr b11 0), (eI a), vF, vF, vF, undef, undef, undef, vF, vF, undef, undef, undef, vF, vF, undef, undef, undef, vF] ++ (us 5)) ?_
  refine wI (d_move rfl) ?_
  refine wX ?_
  refine wX ?_
  refine wX ?_
  refine wI (d_pick (b := false) (v := vF) rfl rfl) ?_
  refine wF [(Value.agg #[(eI a), (eI b), (eI c)]), (ptr b11 0), vF, (ptr b11 0), (eI a), vT, vT, (ptr b11 0), (eI a), vF, vF, vF, undef, undef, undef, vF, vF, undef, undef, undef, vF, vF, undef, undef, undef, vF, vF, undef, undef, undef, vF] ?_
  refine wI (d_assign rfl) ?_
  refine wD (tN ?_)
  refine forget (fun zf21 => ([(zf21 0), (zf21 1), vF] ++ (zs zf21 3 28))) kr (fun zf21 => ?_)
  refine wpIn_ret ?_
  refine leave0 (v := vF) (res1 Try.results36 rfl) ?_
  exact ⟨congrArg Value.bool (by rw [← hr]; simp [fitsA, *]), oW⟩
 refine pL ?_
 refine wI (d_fieldAddr (j := 0) Try.underlying23 rfl s_ti3 (by decide) rfl rfl) ?_
 refine wI (d_load (v := (eI a)) ⟨_, Try.underlying3, rfl⟩ rfl a14 rfl) ?_
 refine wI (d_geq (k := .i64) (m := a) (n := 6) rfl rfl (decide_eq_false k0)) ?_
 refine wF ([(Value.agg #[(eI a), (eI b), (eI c)]), (ptr b11 0), vF, (ptr b11 0), (eI a), vF] ++ (us 25)) ?_
 refine wI (d_move rfl) ?_
 refine wX ?_
 refine wX ?_
 refine wX ?_
 refine wI (d_pick (b := false) (v := vF) rfl rfl) ?_
 refine wF ([(Value.agg #[(eI a), (eI b), (eI c)]), (ptr b11 0), vF, (ptr b11 0), (eI a), vF, vF, undef, undef, undef, vF] ++ (us 20)) ?_
 refine wI (d_move rfl) ?_
 refine wX ?_
 refine wX ?_
 refine wX ?_
 refine wI (d_pick (b := false) (v := vF) rfl rfl) ?_
 refine wF ([(Value.agg #[(eI a), (eI b), (eI c)]), (ptr b11 0), vF, (ptr b11 0), (eI a), vF, vF, undef, undef, undef, vF, vF, undef, undef, undef, vF] ++ (us 15)) ?_
 refine wI (d_move rfl) ?_
 refine wX ?_
 refine wX ?_
 refine wX ?_
 refine wI (d_pick (b := false) (v := vF) rfl rfl) ?_
 refine wF ([(Value.agg #[(eI a), (eI b), (eI c)]), (ptr b11 0), vF, (ptr b11 0), (eI a), vF, vF, undef, undef, undef, vF, vF, undef, undef, undef, vF, vF, undef, undef, undef, vF] ++ (us 10)) ?_
 refine wI (d_move rfl) ?_
 refine wX ?_
 refine wX ?_
 refine wX ?_
 refine wI (d_pick (b := false) (v := vF) rfl rfl) ?_
 refine wF ([(Value.agg #[(eI a), (eI b), (eI c)]), (ptr b11 0), vF, (ptr b11 0), (eI a), vF, vF, undef, undef, undef, vF, vF, undef, undef, undef, vF, vF, undef, undef, undef, vF, vF, undef, undef, undef, vF] ++ (us 5)) ?_
 refine wI (d_move rfl) ?_
 refine wX ?_
 refine wX ?_
 refine wX ?_
 refine wI (d_pick (b := false) (v := vF) rfl rfl) ?_
 refine wF [(Value.agg #[(eI a), (eI b), (eI c)]), (ptr b11 0), vF, (ptr b11 0), (eI a), vF, vF, undef, undef, undef, vF, vF, undef, undef, undef, vF, vF, undef, undef, undef, vF, vF, undef, undef, undef, vF, vF, undef, undef, undef, vF] ?_
 refine wI (d_assign rfl) ?_
 refine wD (tN ?_)
 refine forget (fun zf22 => ([(zf22 0), (zf22 1), vF] ++ (zs zf22 3 28))) kr (fun zf22 => ?_)
 refine wpIn_ret ?_
 refine leave0 (v := vF) (res1 Try.results36 rfl) ?_
 exact ⟨congrArg Value.bool (by rw [← hr]; simp [fitsA, *]), oW⟩
theorem nandNewX_ok (a b c : Int) (ub : Value) (W : World) (hx : ¬ fitsA a b c) :
    CW Try.prog 13 #[(Value.agg #[(eI a), (eI b), (eI c)]), ub] W (Rt (RIs (.tuple #[.pointer none, eN 1]) W)) := by
 have oW : Only No W W := Only.refl _ _
 refine enter (al := [(Value.agg #[(eI a), (eI b), (eI c)]), ub]) (k := 80) (l := ([(Value.agg #[(eI a), (eI b), (eI c)]), ub] ++ (us 80))) Try.func13 rfl Try.ntmps13 rfl rfl ?_
 refine wQ (pL ?_)
 refine wO (d_box rfl rfl) ?_
 rintro _ w11 ⟨gb, rfl, g12, a13, o14⟩
 have g_oW_gb : W.heap.size ≤ gb := Nat.le_trans oW.size g12
 replace oW := oW.tail0 o14
 refine wI (d_assign rfl) ?_
 refine wI (d_assign rfl) ?_
 refine wD (tN (wQ (wQ (pL ?_))))
 refine wI (d_loadAg (vs := [(eI a), (eI b), (eI c)]) ⟨_, Try.underlying23, rfl⟩ s_ti23 rfl a13 rfl rfl) ?_
 refine wO (d_call (xl := [.tmp 10]) (al := [(Value.agg #[(eI a), (eI b), (eI c)])]) Try.func36 kr rfl rfl rfl (nandFitsI_ok a b c _ (decide_eq_false hx))) ?_
 rintro _ w15 ⟨rfl, o16⟩
 replace a13 := a13.step0 o16
 replace oW := oW.tail0 o16
 refine wF ([(Value.agg #[(eI a), (eI b), (eI c)]), ub, (ptr gb 0), undef, (Value.pointer none), (eN 0), undef, undef, undef, undef, (Value.agg #[(eI a), (eI b), (eI c)]), vF] ++ (us 70)) ?_
 refine wI (d_not rfl rfl) ?_
 refine wD (tN ?_)
 refine cond_t rfl ?_
 refine wQ (pL ?_)
 refine wI (d_assign rfl) ?_
 refine wI (d_assign rfl) ?_
 refine wD (tN ?_)
 refine wpIn_ret ?_
 refine then_r ?_
 refine leave0 (v := (Value.tuple #[(Value.pointer none), (eN 1)])) (res2 Try.results13 rfl rfl) ?_
 exact ⟨rfl, oW⟩
theorem nandNewA_ok (a b c : Int) (lb : List (Int × Int)) (ub : Value) (W : World) (h2 : Ps No (Seq (kA 2 eQ) lb ub) W) (glb : lb.length ≤ 1048576) : CW Try.prog 13 #[(.agg #[(eI a), (eI b), (eI c)]), ub] W (Rt (fun u w => ∃ p, u = .tuple #[p, eN (newA a b c lb)] ∧ Only No W w)) := by
  by_cases h : fitsA a b c
  · obtain ⟨D, B, Q, rfl, rfl, rfl, hD, hB, hQ⟩ := fitsA_nat h
    refine (newG_ok D B Q lb ub W h2 glb hD hB hQ).mono fun e w he => ?_
    obtain ⟨u, rfl, p, hp, hO, _⟩ := he
    exact ⟨u, rfl, p, by rw [newA_yes hD hB hQ]; exact hp, hO⟩
  · refine (nandNewX_ok a b c ub W h).mono fun e w he => ?_
    obtain ⟨u, rfl, hu, hO⟩ := he
    exact ⟨u, rfl, _, by rw [newA_no h]; exact hu, hO⟩
theorem ref7FitsI_ok (a b c : Int) {r : Bool} (W : World) (hr : decide (fitsA a b c) = r) :
    CW Try.prog 41 #[(Value.agg #[(eI a), (eI b), (eI c)])] W (Rt (RIs (.bool r) W)) := by
 have oW : Only No W W := Only.refl _ _
 refine enter (al := [(Value.agg #[(eI a), (eI b), (eI c)])]) (k := 30) (l := ([(Value.agg #[(eI a), (eI b), (eI c)])] ++ (us 30))) Try.func41 rfl Try.ntmps41 rfl rfl ?_
 refine wQ (pL ?_)
 refine wO (d_box rfl rfl) ?_
 rintro _ w12 ⟨b11, rfl, g13, a14, o15⟩
 have g_oW_b11 : W.heap.size ≤ b11 := Nat.le_trans oW.size g13
 replace oW := oW.tail0 o15
 refine wI (d_assign rfl) ?_
 refine wD (tN (wQ ?_))
 by_cases k0 : 6 ≤ a
 ·
  by_cases k1 : a ≤ 8
  ·
   by_cases k2 : 8 ≤ b
   ·
    by_cases k3 : b ≤ 12
    ·
     by_cases k4 : 4 ≤ c
     ·
      by_cases k5 : c ≤ 8
      ·
       refine pL ?_
       refine wI (d_fieldAddr (j := 0) Try.underlying23 rfl s_ti3 (by decide) rfl rfl) ?_
       refine wI (d_load (v := (eI a)) ⟨_, Try.underlying3, rfl⟩ rfl a14 rfl) ?_
       refine wI (d_geq (k := .i64) (m := a) (n := 6) rfl rfl (decide_eq_true k0)) ?_
       refine wF ([(Value.agg #[(eI a), (eI b), (eI c)]), (ptr b11 0), vF, (ptr b11 0), (eI a), vT] ++ (us 25)) ?_
       refine wI (d_move rfl) ?_
       refine wG (d_fieldAddr (j := 0) Try.underlying23 rfl s_ti3 (by decide) rfl rfl) ?_
       refine wG (d_load (v := (eI a)) ⟨_, Try.underlying3, rfl⟩ rfl a14 rfl) ?_
       refine wG (d_leq (k := .i64) (m := a) (n := 8) rfl rfl (decide_eq_true k1)) ?_
       refine wI (d_pick (b := true) (v := vT) rfl rfl) ?_
       refine wF ([(Value.agg #[(eI a), (eI b), (eI c)]), (ptr b11 0), vF, (ptr b11 0), (eI a), vT, vT, (ptr b11 0), (eI a), vT, vT] ++ (us 20)) ?_
       refine wI (d_move rfl) ?_
       refine wG (d_fieldAddr (j := 1) Try.underlying23 rfl s_ti3 (by decide) rfl rfl) ?_
       refine wG (d_load (v := (eI b)) ⟨_, Try.underlying3, rfl⟩ rfl a14 rfl) ?_
       refine wG (d_geq (k := .i64) (m := b) (n := 8) rfl rfl (decide_eq_true k2)) ?_
       refine wI (d_pick (b := true) (v := vT) rfl rfl) ?_
       refine wF ([(Value.agg #[(eI a), (eI b), (eI c)]), (ptr b11 0), vF, (ptr b11 0), (eI a), vT, vT, (ptr b11 0), (eI a), vT, vT, vT, (ptr b11 1), (eI b), vT, vT] ++ (us 15)) ?_
       refine wI (d_move rfl) ?_
       refine wG (d_fieldAddr (j := 1) Try.underlying23 rfl s_ti3 (by decide) rfl rfl) ?_
       refine wG (d_load (v := (eI b)) ⟨_, Try.underlying3, rfl⟩ rfl a14 rfl) ?_
       refine wG (d_leq (k := .i64) (m := b) (n := 12) rfl rfl (decide_eq_true k3)) ?_
       refine wI (d_pick (b := true) (v := vT) rfl rfl) ?_
       refine wF ([(Value.agg #[(eI a), (eI b), (eI c)]), (ptr b11 0), vF, (ptr b11 0), (eI a), vT, vT, (ptr b11 0), (eI a), vT, vT, vT, (ptr b11 1), (eI b), vT, vT, vT, (ptr b11 1), (eI b), vT, vT] ++ (us 10)) ?_
       refine wI (d_move rfl) ?_
       refine wG (d_fieldAddr (j := 2) Try.underlying23 rfl s_ti3 (by decide) rfl rfl) ?_
       refine wG (d_load (v := (eI c)) ⟨_, Try.underlying3, rfl⟩ rfl a14 rfl) ?_
       refine wG (d_geq (k := .i64) (m := c) (n := 4) rfl rfl (decide_eq_true k4)) ?_
       refine wI (d_pick (b := true) (v := vT) rfl rfl) ?_
       refine wF ([(Value.agg #[(eI a), (eI b), (eI c)]), (ptr b11 0), vF, (ptr b11 0), (eI a), vT, vT, (ptr b11 0), (eI a), vT, vT, vT, (ptr b11 1), (eI b), vT, vT, vT, (ptr b11 1), (eI b), vT, vT, vT, (ptr b11 2), (eI c), vT, vT] ++ (us 5)) ?_
       refine wI (d_move rfl) ?_
       refine wG (d_fieldAddr (j := 2) Try.underlying23 rfl s_ti3 (by decide) rfl rfl) ?_
       refine wG (d_load (v := (eI c)) ⟨_, Try.underlying3, rfl⟩ rfl a14 rfl) ?_
       refine wG (d_leq (k := .i64) (m := c) (n := 8) rfl rfl (decide_eq_true k5)) ?_
       refine wI (d_pick (b := true) (v := vT) rfl rfl) ?_
       refine wF [(Value.agg #[(eI a), (eI b), (eI c)]), (ptr b11 0), vF, (ptr b11 0), (eI a), vT, vT, (ptr b11 0), (eI a), vT, vT, vT, (ptr b11 1), (eI b), vT, vT, vT, (ptr b11 1), (eI b), vT, vT, vT, (ptr b11 2), (eI c), vT, vT, vT, (ptr b11 2), (eI c), vT, vT] ?_
       refine wI (d_assign rfl) ?_
       refine wD (tN ?_)
       refine forget (fun zf16 => ([(zf16 0), (zf16 1), vT] ++ (zs zf16 3 28))) kr (fun zf16 => ?_)
       refine wpIn_ret ?_
       refine leave0 (v := vT) (res1 Try.results41 rfl) ?_
       exact ⟨congrArg Value.bool (by rw [← hr]; simp [fitsA, *]), oW⟩
      refine pL ?_
      refine wI (d_fieldAddr (j := 0) Try.underlying23 rfl s_ti3 (by decide) rfl rfl) ?_
      refine wI (d_load (v := (eI a)) ⟨_, Try.underlying3, rfl⟩ rfl a14 rfl) ?_
      refine wI (d_geq (k := .i64) (m := a) (n := 6) rfl rfl (decide_eq_true k0)) ?_
      refine wF ([(Value.agg #[(eI a), (eI b), (eI c)]), (ptr b11 0), vF, (ptr b11 0), (eI a), vT] ++ (us 25)) ?_
      refine wI (d_move rfl) ?_
      refine wG (d_fieldAddr (j := 0) Try.underlying23 rfl s_ti3 (by decide) rfl rfl) ?_
      refine wG (d_load (v := (eI a)) ⟨_, Try.underlying3, rfl⟩ rfl a14 rfl) ?_
      refine wG (d_leq (k := .i64) (m := a) (n := 8) rfl rfl (decide_eq_true k1)) ?_
      refine wI (d_pick (b := true) (v := vT) rfl rfl) ?_
      refine wF ([(Value.agg #[(eI a), (eI b), (eI c)]), (ptr b11 0), vF, (ptr b11 0), (eI a), vT, vT, (ptr b11 0), (eI a), vT, vT] ++ (us 20)) ?_
      refine wI (d_move rfl) ?_
      refine wG (d_fieldAddr (j := 1) Try.underlying23 rfl s_ti3 (by decide) rfl rfl) ?_
      refine wG (d_load (v := (eI b)) ⟨_, Try.underlying3, rfl⟩ rfl a14 rfl) ?_
      refine wG (d_geq (k := .i64) (m := b) (n := 8) rfl rfl (decide_eq_true k2)) ?_
      refine wI (d_pick (b := true) (v := vT) rfl rfl) ?_
      refine wF ([(Value.agg #[(eI a), (eI b), (eI c)]), (ptr b11 0), vF, (ptr b11 0), (eI a), vT, vT, (ptr b11 0), (eI a), vT, vT, vT, (ptr b11 1), (eI b), vT, vT] ++ (us 15)) ?_
      refine wI (d_move rfl) ?_
      refine wG (d_fieldAddr (j := 1) Try.underlying23 rfl s_ti3 (by decide) rfl rfl) ?_
      refine wG (d_load (v := (eI b)) ⟨_, Try.underlying3, rfl⟩ rfl a14 rfl) ?_
      refine wG (d_leq (k := .i64) (m := b) (n := 12) rfl rfl (decide_eq_true k3)) ?_
      refine wI (d_pick (b := true) (v := vT) rfl rfl) ?_
      refine wF ([(Value.agg #[(eI a), (eI b), (eI c)]), (ptr b11 0), vF, (ptr b11 0), (eI a), vT, vT, (ptr b11 0), (eI a), vT, vT, vT, (ptr b11 1), (eI b), vT, vT, vT, (ptr b11 1), (eI b), vT, vT] ++ (us 10)) ?_
      refine wI (d_move rfl) ?_
      refine wG (d_fieldAddr (j := 2) Try.underlying23 rfl s_ti3 (by decide) rfl rfl) ?_
      refine wG (d_load (v := (eI c)) ⟨_, Try.underlying3, rfl⟩ rfl a14 rfl) ?_
      refine wG (d_geq (k := .i64) (m := c) (n := 4) rfl rfl (decide_eq_true k4)) ?_
      refine wI (d_pick (b := true) (v := vT) rfl rfl) ?_
      refine wF ([(Value.agg #[(eI a), (eI b), (eI c)]), (ptr b11 0), vF, (ptr b11 0), (eI a), vT, vT, (ptr b11 0), (eI a), vT, vT, vT, (ptr b11 1), (eI b), vT, vT, vT, (ptr b11 1), (eI b), vT, vT, vT, (ptr b11 2), (eI c), vT, vT] ++ (us 5)) ?_
      refine wI (d_move rfl) ?_
      refine wG (d_fieldAddr (j := 2) Try.underlying23 rfl s_ti3 (by decide) rfl rfl) ?_
      refine wG (d_load (v := (eI c)) ⟨_, Try.underlying3, rfl⟩ rfl a14 rfl) ?_
      refine wG (d_leq (k := .i64) (m := c) (n := 8) rfl rfl (decide_eq_false k5)) ?_
      refine wI (d_pick (b := true) (v := vF) rfl rfl) ?_
      refine wF [(Value.agg #[(eI a), (eI b), (eI c)]), (ptr b11 0), vF, (ptr b11 0), (eI a), vT, vT, (ptr b11 0), (eI a), vT, vT, vT, (ptr b11 1), (eI b), vT, vT, vT, (ptr b11 1), (eI b), vT, vT, vT, (ptr b11 2), (eI c), vT, vT, vT, (ptr b11 2), (eI c), vF, vF] ?_
      refine wI (d_assign rfl) ?_
      refine wD (tN ?_)
      refine forget (fun zf17 => ([(zf17 0), (zf17 1), vF] ++ (zs zf17 3 28))) kr (fun zf17 => ?_)
      refine wpIn_ret ?_
      refine leave0 (v := vF) (res1 Try.results41 rfl) ?_
      exact ⟨congrArg Value.bool (by rw [← hr]; simp [fitsA, *]), oW⟩
     refine pL ?_
     refine wI (d_fieldAddr (j := 0) Try.underlying23 rfl s_ti3 (by decide) rfl rfl) ?_
     refine wI (d_load (v := (eI a)) ⟨_, Try.underlying3, rfl⟩ rfl a14 rfl) ?_
     refine wI (d_geq (k := .i64) (m := a) (n := 6) rfl rfl (decide_eq_true k0)) ?_
     refine wF ([(Value.agg #[(eI a), (eI b), (eI c)]), (ptr b11 0), vF, (ptr b11 0), (eI a), vT] ++ (us 25)) ?_
     refine wI (d_move rfl) ?_
     refine wG (d_fieldAddr (j := 0) Try.underlying23 rfl s_ti3 (by decide) rfl rfl) ?_
     refine wG (d_load (v := (eI a)) ⟨_, Try.underlying3, rfl⟩ rfl a14 rfl) ?_
     refine wG (d_leq (k := .i64) (m := a) (n := 8) rfl rfl (decide_eq_true k1)) ?_
     refine wI (d_pick (b := true) (v := vT) rfl rfl) ?_
     refine wF ([(Value.agg #[(eI a), (eI b), (eI c)]), (ptr b11 0), vF, (ptr b11 0), (eI a), vT, vT, (ptr b11 0), (eI a), vT, vT] ++ (us 20)) ?_
     refine wI (d_move rfl) ?_
     refine wG (d_fieldAddr (j := 1) Try.underlying23 rfl s_ti3 (by decide) rfl rfl) ?_
     refine wG (d_load (v := (eI b)) ⟨_, Try.underlying3, rfl⟩ rfl a14 rfl) ?_
     refine wG (d_geq (k := .i64) (m := b) (n := 8) rfl rfl (decide_eq_true k2)) ?_
     refine wI (d_pick (b := true) (v := vT) rfl rfl) ?_
     refine wF ([(Value.agg #[(eI a), (eI b), (eI c)]), (ptr b11 0), vF, (ptr b11 0), (eI a), vT, vT, (ptr b11 0), (eI a), vT, vT, vT, (ptr b11 1), (eI b), vT, vT] ++ (us 15)) ?_
     refine wI (d_move rfl) ?_
     refine wG (d_fieldAddr (j := 1) Try.underlying23 rfl s_ti3 (by decide) rfl rfl) ?_
     refine wG (d_load (v := (eI b)) ⟨_, Try.underlying3, rfl⟩ rfl a14 rfl) ?_
     refine wG (d_leq (k := .i64) (m := b) (n := 12) rfl rfl (decide_eq_true k3)) ?_
     refine wI (d_pick (b := true) (v := vT) rfl rfl) ?_
     refine wF ([(Value.agg #[(eI a), (eI b), (eI c)]), (ptr b11 0), vF, (ptr b11 0), (eI a), vT, vT, (ptr b11 0), (eI a), vT, vT, vT, (ptr b11 1), (eI b), vT, vT, vT, (ptr b11 1), (eI b), vT, vT] ++ (us 10)) ?_
     refine wI (d_move rfl) ?_
     refine wG (d_fieldAddr (j := 2) Try.underlying23 rfl s_ti3 (by decide) rfl rfl) ?_
     refine wG (d_load (v := (eI c)) ⟨_, Try.underlying3, rfl⟩ rfl a14 rfl) ?_
     refine wG (d_geq (k := .i64) (m := c) (n := 4) rfl rfl (decide_eq_false k4)) ?_
     refine wI (d_pick (b := true) (v := vF) rfl rfl) ?_
     refine wF ([(Value.agg #[(eI a), (eI b), (eI c)]), (ptr b11 0), vF, (ptr b11 0), (eI a), vT, vT, (ptr b11 0), (eI a), vT, vT, vT, (ptr b11 1), (eI b), vT, vT, vT, (ptr b11 1), (eI b), vT, vT, vT, (ptr b11 2), (eI c), vF, vF] ++ (us 5)) ?_
     refine wI (d_move rfl) ?_
     refine wX ?_
     refine wX ?_
     refine wX ?_
     refine wI (d_pick (b := false) (v := vF) rfl rfl) ?_
     refine wF [(Value.agg #[(eI a), (eI b), (eI c)]), (ptr b11 0), vF, (ptr b11 0), (eI a), vT, vT, (ptr b11 0), (eI a), vT, vT, vT, (ptr b11 1), (eI b), vT, vT, vT, (ptr b11 1), (eI b), vT, vT, vT, (ptr b11 2), (eI c), vF, vF, vF, undef, undef, undef, vF] ?_
     refine wI (d_assign rfl) ?_
     refine wD (tN ?_)
     refine forget (fun zf18 => ([(zf18 0), (zf18 1), vF] ++ (zs zf18 3 28))) kr (fun zf18 => ?_)
     refine wpIn_ret ?_
     refine leave0 (v := vF) (res1 Try.results41 rfl) ?_
     exact ⟨congrArg Value.bool (by rw [← hr]; simp [fitsA, *]), oW⟩
    refine pL ?_
    refine wI (d_fieldAddr (j := 0) Try.underlying23 rfl s_ti3 (by decide) rfl rfl) ?_
    refine wI (d_load (v := (eI a)) ⟨_, Try.underlying3, rfl⟩ rfl a14 rfl) ?_
    refine wI (d_geq (k := .i64) (m := a) (n := 6) rfl rfl (decide_eq_true k0)) ?_
    refine wF ([(Value.agg #[(eI a), (eI b), (eI c)]), (ptr b11 0), vF, (ptr b11 0), (eI a), vT] ++ (us 25)) ?_
    refine wI (d_move rfl) ?_
    refine wG (d_fieldAddr (j := 0) Try.underlying23 rfl s_ti3 (by decide) rfl rfl) ?_
    refine wG (d_load (v := (eI a)) ⟨_, Try.underlying3, rfl⟩ rfl a14 rfl) ?_
    refine wG (d_leq (k := .i64) (m := a) (n := 8) rfl rfl (decide_eq_true k1)) ?_
    refine wI (d_pick (b := true) (v := vT) rfl rfl) ?_
    refine wF ([(Value.agg #[(eI a), (eI b), (eI c)]), (ptr b11 0), vF, (ptr b11 0), (eI a), vT, vT, (ptr b11 0), (eI a), vT, vT] ++ (us 20)) ?_
    refine wI (d_move rfl) ?_
    refine wG (d_fieldAddr (j := 1) Try.underlying23 rfl s_ti3 (by decide) rfl rfl) ?_
    refine wG (d_load (v := (eI b)) ⟨_, Try.underlying3, rfl⟩ rfl a14 rfl) ?_
    refine wG (d_geq (k := .i64) (m := b) (n := 8) rfl rfl (decide_eq_true k2)) ?_
    refine wI (d_pick (b := true) (v := vT) rfl rfl) ?_
    refine wF ([(Value.agg #[(eI a), (eI b), (eI c)]), (ptr b11 0), vF, (ptr b11 0), (eI a), vT, vT, (ptr b11 0), (eI a), vT, vT, vT, (ptr b11 1), (eI b), vT, vT] ++ (us 15)) ?_
    refine wI (d_move rfl) ?_
    refine wG (d_fieldAddr (j := 1) Try.underlying23 rfl s_ti3 (by decide) rfl rfl) ?_
    refine wG (d_load (v := (eI b)) ⟨_, Try.underlying3, rfl⟩ rfl a14 rfl) ?_
    refine wG (d_leq (k := .i64) (m := b) (n := 12) rfl rfl (decide_eq_false k3)) ?_
    refine wI (d_pick (b := true) (v := vF) rfl rfl) ?_
    refine wF ([(Value.agg #[(eI a), (eI b), (eI c)]), (ptr b11 0), vF, (ptr b11 0), (eI a), vT, vT, (ptr b11 0), (eI a), vT, vT, vT, (ptr b11 1), (eI b), vT, vT, vT, (ptr b11 1), (eI b), vF, vF] ++ (us 10)) ?_
    refine wI (d_move rfl) ?_
    refine wX ?_
    refine wX ?_
    refine wX ?_
    refine wI (d_pick (b := false) (v := vF) rfl rfl) ?_
    refine wF ([(Value.agg #[(eI a), (eI b), (eI c)]), (ptr b11 0), vF, (ptr b11 0), (eI a), vT, vT, (ptr b11 0), (eI a), vT, vT, vT, (ptr b11 1), (eI b), vT, vT, vT, (ptr b11 1), (eI b), vF, vF, vF, undef, undef, undef, vF] ++ (us 5)) ?_
    refine wI (d_move rfl) ?_
    refine wX ?_
    refine wX ?_
    refine wX ?_
    refine wI (d_pick (b := false) (v := vF) rfl rfl) ?_
    refine wF [(Value.agg #[(eI a), (eI b), (eI c)]), (ptr b11 0), vF, (ptr b11 0), (eI a), vT, vT, (ptr b11 0), (eI a), vT, vT, vT, (ptr b11 1), (eI b), vT, vT, vT, (ptr b11 1), (eI b), vF, vF, vF, undef, undef, undef, vF, vF, undef, undef, undef, vF] ?_
    refine wI (d_assign rfl) ?_
    refine wD (tN ?_)
    refine forget (fun zf19 => ([(zf19 0), (zf19 1), vF] ++ (zs zf19 3 28))) kr (fun zf19 => ?_)
    refine wpIn_ret ?_
    refine leave0 (v := vF) (res1 Try.results41 rfl) ?_
    exact ⟨congrArg Value.bool (by rw [← hr]; simp [fitsA, *]), oW⟩
   refine pL ?_
   refine wI (d_fieldAddr (j := 0) Try.underlying23 rfl s_ti3 (by decide) rfl rfl) ?_
   refine wI (d_load (v := (eI a)) ⟨_, Try.underlying3, rfl⟩ rfl a14 rfl) ?_
   refine wI (d_geq (k := .i64) (m := a) (n := 6) rfl rfl (decide_eq_true k0)) ?_
   refine wF ([(Value.agg #[(eI a), (eI b), (eI c)]), (ptr b11 0), vF, (ptr b11 0), (eI a), vT] ++ (us 25)) ?_
   refine wI (d_move rfl) ?_
   refine wG (d_fieldAddr (j := 0) Try.underlying23 rfl s_ti3 (by decide) rfl rfl) ?_
   refine wG (d_load (v := (eI a)) ⟨_, Try.underlying3, rfl⟩ rfl a14 rfl) ?_
   refine wG (d_leq (k := .i64) (m := a) (n := 8) rfl rfl (decide_eq_true k1)) ?_
   refine wI (d_pick (b := true) (v := vT) rfl rfl) ?_
   refine wF ([(Value.agg #[(eI a), (eI b), (eI c)]), (ptr b11 0), vF, (ptr b11 0), (eI a), vT, vT, (ptr b11 0), (eI a), vT, vT] ++ (us 20)) ?_
   refine wI (d_move rfl) ?_
   refine wG (d_fieldAddr (j := 1) Try.underlying23 rfl s_ti3 (by decide) rfl rfl) ?_
   refine wG (d_load (v := (eI b)) ⟨_, Try.underlying3, rfl⟩ rfl a14 rfl) ?_
   refine wG (d_geq (k := .i64) (m := b) (n := 8) rfl rfl (decide_eq_false k2)) ?_
   refine wI (d_pick (b := true) (v := vF) rfl rfl) ?_
   refine wF ([(Value.agg #[(eI a), (eI b), (eI c)]), (ptr b11 0), vF, (ptr b11 0), (eI a), vT, vT, (ptr b11 0), (eI a), vT, vT, vT, (ptr b11 1), (eI b), vF, vF] ++ (us 15)) ?_
   refine wI (d_move rfl) ?_
   refine wX ?_
   refine wX ?_
   refine wX ?_
   refine wI (d_pick (b := false) (v := vF) rfl rfl) ?_
   refine wF ([(Value.agg #[(eI a), (eI b), (eI c)]), (ptr b11 0), vF, (ptr b11 0), (eI a), vT, vT, (ptr b11 0), (eI a), vT, vT, vT, (ptr b11 1), (eI b), vF, vF, vF, undef, undef, undef, vF] ++ (us 10)) ?_
   refine wI (d_move rfl) ?_
   refine wX ?_
   refine wX ?_
   refine wX ?_
   refine wI (d_pick (b := false) (v := vF) rfl rfl) ?_
   refine wF ([(Value.agg #[(eI a), (eI b), (eI c)]), (ptr b11 0), vF, (ptr b11 0), (eI a), vT, vT, (ptr b11 0), (eI a), vT, vT, vT, (ptr b11 1), (eI b), vF, vF, vF, undef, undef, undef, vF, vF, undef, undef, undef, vF] ++ (us 5)) ?_
   refine wI (d_move rfl) ?_
   refine wX ?_
   refine wX ?_
   refine wX ?_
   refine wI (d_pick (b := false) (v := vF) rfl rfl) ?_
   refine wF [(Value.agg #[(eI a), (eI b), (eI c)]), (ptr b11 0), vF, (ptr b11 0), (eI a), vT, vT, (ptr b11 0), (eI a), vT, vT, vT, (ptr b11 1), (eI b), vF, vF, vF, undef, undef, undef, vF, vF, undef, undef, undef, vF, vF, undef, undef, undef, vF] ?_
   refine wI (d_assign rfl) ?_
   refine wD (tN ?_)
   refine forget (fun zf20 => ([(zf20 0), (zf20 1), vF] ++ (zs zf20 3 28))) kr (fun zf20 => ?_)
   refine wpIn_ret ?_
   refine leave0 (v := vF) (res1 Try.results41 rfl) ?_
   exact ⟨congrArg Value.bool (by rw [← hr]; simp [fitsA, *]), oW⟩
  refine pL ?_
  refine wI (d_fieldAddr (j := 0) Try.underlying23 rfl s_ti3 (by decide) rfl rfl) ?_
  refine wI (d_load (v := (eI a)) ⟨_, Try.underlying3, rfl⟩ rfl a14 rfl) ?_
  refine wI (d_geq (k := .i64) (m := a) (n := 6) rfl rfl (decide_eq_true k0)) ?_
  refine wF ([(Value.agg #[(eI a), (eI b), (eI c)]), (ptr b11 0), vF, (ptr b11 0), (eI a), vT] ++ (us 25)) ?_
  refine wI (d_move rfl) ?_
  refine wG (d_fieldAddr (j := 0) Try.underlying23 rfl s_ti3 (by decide) rfl rfl) ?_
  refine wG (d_load (v := (eI a)) ⟨_, Try.underlying3, rfl⟩ rfl a14 rfl) ?_
  refine wG (d_leq (k := .i64) (m := a) (n := 8) rfl rfl (decide_eq_false k1)) ?_
  refine wI (d_pick (b := true) (v := vF) rfl rfl) ?_
  refine wF ([(Value.agg #[(eI a), (eI b), (eI c)]), (ptr b11 0), vF, (ptr b11 0), (eI a), vT, vT, (ptr b11 0), (eI a), vF, vF] ++ (us 20)) ?_
  refine wI (d_move rfl) ?_
  refine wX ?_
  refine wX ?_
  refine wX ?_
  refine wI (d_pick (b := false) (v := vF) rfl rfl) ?_
  refine wF ([(Value.agg #[(eI a), (eI b), (eI c)]), (ptr b11 0), vF, (ptr b11 0), (eI a), vT, vT, (ptr b11 0), (eI a), vF, vF, vF, undef, undef, undef, vF] ++ (us 15)) ?_
  refine wI (d_move rfl) ?_
  refine wX ?_
  refine wX ?_
  refine wX ?_
  refine wI (d_pick (b := false) (v := vF) rfl rfl) ?_
  refine wF ([(Value.agg #[(eI a), (eI b), (eI c)]), (ptr b11 0), vF, (ptr b11 0), (eI a), vT, vT, (ptr b11 0), (eI a), vF, vF, vF, undef, undef, undef, vF, vF, undef, undef, undef, vF] ++ (us 10)) ?_
  refine wI (d_move rfl) ?_
  refine wX ?_
  refine wX ?_
  refine wX ?_
  refine wI (d_pick (b := false) (v := vF) rfl rfl) ?_
  refine wF ([(Value.agg #[(eI a), (eI b), (eI c)]), (ptr b11 0), vF, (ptr b11 0), (eI a), vT, vT, (ptr b11 0), (eI a), vF, vF, vF, undef, undef, undef, vF, vF, undef, undef, undef, vF, vF, undef, undef, undef, vF] ++ (us 5)) ?_
  refine wI (d_move rfl) ?_
  refine wX ?_
  refine wX ?_
  refine wX ?_
  refine wI (d_pick (b := false) (v := vF) rfl rfl) ?_
  refine wF [(Value.agg #[(eI a), (eI b), (eI c)]), (ptr b11 0), vF, (ptr b11 0), (eI a), vT, vT, (ptr b11 0), (eI a), vF, vF, vF, undef, undef, undef, vF, vF, undef, undef, undef, vF, vF, undef, undef, undef, vF, vF, undef, undef, undef, vF] ?_
  refine wI (d_assign rfl) ?_
  refine wD (tN ?_)
  refine forget (fun zf21 => ([(zf21 0), (zf21 1), vF] ++ (zs zf21 3 28))) kr (fun zf21 => ?_)
  refine wpIn_ret ?_
  refine leave0 (v := vF) (res1 Try.results41 rfl) ?_
  exact ⟨congrArg Value.bool (by rw [← hr]; simp [fitsA, *]), oW⟩
 refine pL ?_
 refine wI (d_fieldAddr (j := 0) Try.underlying23 rfl s_ti3 (by decide) rfl rfl) ?_
 refine wI (d_load (v := (eI a)) ⟨_, Try.underlying3, rfl⟩ rfl a14 rfl) ?_
 refine wI (d_geq (k := .i64) (m := a) (n := 6) rfl rfl (decide_eq_false k0)) ?_
 refine wF ([(Value.agg #[(eI a), (eI b), (eI c)]), (ptr b11 0), vF, (ptr b11 0), (eI a), vF] ++ (us 25)) ?_
 refine wI (d_move rfl) ?_
 refine wX ?_
 refine wX ?_
 refine wX ?_
 refine wI (d_pick (b := false) (v := vF) rfl rfl) ?_
 refine wF ([(Value.agg #[(eI a), (eI b), (eI c)]), (ptr b11 0), vF, (ptr b11 0), (eI a), vF, vF, undef, undef, undef, vF] ++ (us 20)) ?_
 refine wI (d_move rfl) ?_
 refine wX ?_
 refine wX ?_
 refine wX ?_
 refine wI (d_pick (b := false) (v := vF) rfl rfl) ?_
 refine wF ([(Value.agg #[(eI a), (eI b), (eI c)]), (ptr b11 0), vF, (ptr b11 0), (eI a), vF, vF, undef, undef, undef, vF, vF, undef, undef, undef, vF] ++ (us 15)) ?_
 refine wI (d_move rfl) ?_
 refine wX ?_
 refine wX ?_
 refine wX ?_
 refine wI (d_pick (b := false) (v := vF) rfl rfl) ?_
 refine wF ([(Value.agg #[(eI a), (eI b), (eI c)]), (ptr b11 0), vF, (ptr b11 0), (eI a), vF, vF, undef, undef, undef, vF, vF, undef, undef, undef, vF, vF, undef, undef, undef, vF] ++ (us 10)) ?_
 refine wI (d_move rfl) ?_
 refine wX ?_
 refine wX ?_
 refine wX ?_
 refine wI (d_pick (b := false) (v := vF) rfl rfl) ?_
 refine wF ([(Value.agg #[(eI a), (eI b), (eI c)]), (ptr b11 0), vF, (ptr b11 0), (eI a), vF, vF, undef, undef, undef, vF, vF, undef, undef, undef, vF, vF, undef, undef, undef, vF, vF, undef, undef, undef, vF] ++ (us 5)) ?_
 refine wI (d_move rfl) ?_
 refine wX ?_
 refine wX ?_
 refine wX ?_
 refine wI (d_pick (b := false) (v := vF) rfl rfl) ?_
 refine wF [(Value.agg #[(eI a), (eI b), (eI c)]), (ptr b11 0), vF, (ptr b11 0), (eI a), vF, vF, undef, undef, undef, vF, vF, undef, undef, undef, vF, vF, undef, undef, undef, vF, vF, undef, undef, undef, vF, vF, undef, undef, undef, vF] ?_
 refine wI (d_assign rfl) ?_
 refine wD (tN ?_)
 refine forget (fun zf22 => ([(zf22 0), (zf22 1), vF] ++ (zs zf22 3 28))) kr (fun zf22 => ?_)
 refine wpIn_ret ?_
 refine leave0 (v := vF) (res1 Try.results41 rfl) ?_
 exact ⟨congrArg Value.bool (by rw [← hr]; simp [fitsA, *]), oW⟩
theorem ref7NewX_ok (a b c : Int) (ub : Value) (W : World) (hx : ¬ fitsA a b c) :
    CW Try.prog 14 #[(Value.agg #[(eI a), (eI b), (eI c)]), ub] W (Rt (RIs (.tuple #[.pointer none, eN 1]) W)) := by
 have oW : Only No W W := Only.refl _ _
 refine enter (al := [(Value.agg #[(eI a), (eI b), (eI c)]), ub]) (k := 111) (l := ([(Value.agg #[(eI a), (eI b), (eI c)]), ub] ++ (us 111))) Try.func14 rfl Try.ntmps14 rfl rfl ?_
 refine wQ (pL ?_)
 refine wO (d_box rfl rfl) ?_
 rintro _ w11 ⟨gb, rfl, g12, a13, o14⟩
 have g_oW_gb : W.heap.size ≤ gb := Nat.le_trans oW.size g12
 replace oW := oW.tail0 o14
 refine wI (d_assign rfl) ?_
 refine wI (d_assign rfl) ?_
 refine wD (tN (wQ (wQ (pL ?_))))
 refine wI (d_loadAg (vs := [(eI a), (eI b), (eI c)]) ⟨_, Try.underlying23, rfl⟩ s_ti23 rfl a13 rfl rfl) ?_
 refine wO (d_call (xl := [.tmp 14]) (al := [(Value.agg #[(eI a), (eI b), (eI c)])]) Try.func41 kr rfl rfl rfl (ref7FitsI_ok a b c _ (decide_eq_false hx))) ?_
 rintro _ w15 ⟨rfl, o16⟩
 replace a13 := a13.step0 o16
 replace oW := oW.tail0 o16
 refine wF ([(Value.agg #[(eI a), (eI b), (eI c)]), ub, (ptr gb 0), undef, (Value.pointer none), (eN 0)] ++ (us 8 ++ [(Value.agg #[(eI a), (eI b), (eI c)]), vF] ++ (us 97))) ?_
 refine wI (d_not rfl rfl) ?_
 refine wD (tN ?_)
 refine cond_t rfl ?_
 refine wQ (pL ?_)
 refine wI (d_assign rfl) ?_
 refine wI (d_assign rfl) ?_
 refine wD (tN ?_)
 refine wpIn_ret ?_
 refine then_r ?_
 refine leave0 (v := (Value.tuple #[(Value.pointer none), (eN 1)])) (res2 Try.results14 rfl rfl) ?_
 exact ⟨rfl, oW⟩
theorem ref7NewA_ok (a b c : Int) (lb : List (Int × Int)) (ub : Value) (W : World) (h2 : Ps No (Seq (kA 2 eQ) lb ub) W) (glb : lb.length ≤ 1048576) : CW Try.prog 14 #[(.agg #[(eI a), (eI b), (eI c)]), ub] W (Rt (fun u w => ∃ p, u = .tuple #[p, eN (newA a b c lb)] ∧ Only No W w)) := by
  by_cases h : fitsA a b c
  · obtain ⟨D, B, Q, rfl, rfl, rfl, hD, hB, hQ⟩ := fitsA_nat h
    refine (refNew_ok D B Q lb ub W h2 glb hD hB hQ).mono fun e w he => ?_
    obtain ⟨u, rfl, p, hp, hO, _⟩ := he
    exact ⟨u, rfl, p, by rw [newA_yes hD hB hQ]; exact hp, hO⟩
  · refine (ref7NewX_ok a b c ub W h).mono fun e w he => ?_
    obtain ⟨u, rfl, hu, hO⟩ := he
    exact ⟨u, rfl, _, by rw [newA_no h]; exact hu, hO⟩
theorem nandMakes_true (a b c : Int) (lb : List (Int × Int)) (wh : Int) (u1 : Value) (W : World) (h1 : Ps No (Seq (kA 2 eQ) lb u1) W) :
    CW Try.prog 3 #[(Value.agg #[(eI a), (eI b), (eI c)]), u1, (eI wh), vT] W (Rt (RIs (.bool true) W)) := by
 have oW : Only No W W := Only.refl _ _
 refine enter (al := [(Value.agg #[(eI a), (eI b), (eI c)]), u1, (eI wh), vT]) (k := 110) (l := ([(Value.agg #[(eI a), (eI b), (eI c)]), u1, (eI wh), vT] ++ (us 110))) Try.func3 rfl Try.ntmps3 rfl rfl ?_
 refine wQ (pL ?_)
 refine wO (d_box rfl rfl) ?_
 rintro _ w11 ⟨gb, rfl, g12, a13, o14⟩
 have g_oW_gb : W.heap.size ≤ gb := Nat.le_trans oW.size g12
 replace h1 := h1.new o14 g12
 replace oW := oW.tail0 o14
 refine wI (d_assign rfl) ?_
 refine wD (tN (wQ (wQ (pL ?_))))
 refine wO (d_call (xl := []) (al := []) Try.func11 kr rfl rfl rfl (law7Known_ok _)) ?_
 rintro _ w15 ⟨rfl, o16⟩
 replace h1 := h1.step0 o16
 replace a13 := a13.step0 o16
 replace oW := oW.tail0 o16
 refine wI (d_not rfl rfl) ?_
 refine wD (tN ?_)
 refine cond_f rfl ?_
 refine wK (tN (wQ (wQ (pL ?_))))
 refine wI (d_move rfl) ?_
 refine wF ([(Value.agg #[(eI a), (eI b), (eI c)]), u1, (eI wh), vT, (ptr gb 0), undef, undef, undef, vF] ++ (us 12 ++ [vT, vF, u1] ++ (us 90))) ?_
 refine wI (d_lenS rfl Try.underlying24 rfl h1) ?_
 refine wI (n_gtr (a := lb.length) (b := 30) rfl rfl rfl) ?_
 refine wD (tN ?_)
 refine cond_if rfl (fun c25 => ?_) (fun c25 => ?_)
 ·
  refine wQ (pL ?_)
  refine wI (d_assign rfl) ?_
  refine wD (tN ?_)
  refine forget (fun zf17 => (zs zf17 0 8 ++ [vT] ++ (zs zf17 9 105))) kr (fun zf17 => ?_)
  refine wpIn_ret ?_
  refine then_r ?_
  refine leave0 (v := vT) (res1 Try.results3 rfl) ?_
  exact ⟨rfl, oW⟩
 refine wK (tN (wQ (pL ?_)))
 refine wI (d_assign rfl) ?_
 refine wD (tN (wQ (wQ (pL ?_))))
 refine wI (d_move rfl) ?_
 refine wD (tN ?_)
 refine cond_t rfl ?_
 refine pL ?_
 refine wI (d_assign rfl) ?_
 refine wF ([(Value.agg #[(eI a), (eI b), (eI c)]), u1, (eI wh), vT, (ptr gb 0), undef, undef, undef, vF, (eN 1)] ++ (us 11 ++ [vT, vF, u1, (eN lb.length), (Value.bool (decide (30 < lb.length))), vT] ++ (us 87))) ?_
 refine wD (tN ?_)
 refine forget (fun zf18 => ([(zf18 0), u1, (eI wh), vT, (ptr gb 0), (zf18 5), (zf18 6), (zf18 7), (zf18 8), (eN 1)] ++ (zs zf18 10 104))) kr (fun zf18 => ?_)
 refine wQ (pL ?_)
 refine wI (d_buildS (pl := [(0, 1), (1, 1), (2, 1)]) (zs := [(eN 0), (eN 0), (eN 0)]) (cs := [(eN 7), (eN 9), (eN 5)]) Try.underlying23 s_ti23 ⟨_, _, _, _, rfl, s_ti3, ⟨_, _, _, _, rfl, s_ti3, ⟨_, _, _, _, rfl, s_ti3, rfl⟩⟩⟩ rfl (parts_cons (vs := [(eN 7)]) (cells_of (v := (eN 7)) rfl rfl) (parts_cons (vs := [(eN 9)]) (cells_of (v := (eN 9)) rfl rfl) (parts_cons (vs := [(eN 5)]) (cells_of (v := (eN 5)) rfl rfl) parts_nil))) rfl) ?_
 refine wO (d_alloc s_ti23 rfl) ?_
 rintro _ w19 ⟨hb, rfl, g20, a21, o22⟩
 have n_gb_hb : gb ≠ hb := a13.ne g20
 have g_oW_hb : W.heap.size ≤ hb := Nat.le_trans oW.size g20
 replace h1 := h1.new o22 g20
 replace a13 := a13.step0 o22
 replace oW := oW.tail0 o22
 refine wO (d_storeAg (cs' := [(eN 7), (eN 9), (eN 5)]) s_ti23 rfl rfl rfl (oc_cons rfl (oc_cons rfl (oc_cons rfl oc_nil))) a21 (by decide) rfl) ?_
 rintro _ w23 ⟨a24, o25⟩
 replace h1 := h1.stepb o25 in1
 replace a13 := a13.step o25 (fun e => absurd e n_gb_hb)
 replace oW := oW.tailb o25 g_oW_hb
 refine wD (tN (wQ (wQ (pL ?_))))
 refine wI (d_move rfl) ?_
 refine wO (d_call (xl := [.tmp 28, .const (.int .i64 6)]) (al := [(eI wh), (eN 6)]) Try.func12 kr rfl rfl rfl (law7Within_ok wh 6 _ oo oo)) ?_
 rintro _ w26 ⟨rfl, o27⟩
 replace h1 := h1.step0 o27
 replace a13 := a13.step0 o27
 replace a24 := a24.step0 o27
 replace oW := oW.tail0 o27
 refine wF ([(zf18 0), u1, (eI wh), vT, (ptr gb 0), (zf18 5), (zf18 6), (zf18 7), (zf18 8), (eN 1), (ptr hb 0)] ++ (zs zf18 11 16 ++ [(Value.agg #[(eN 7), (eN 9), (eN 5)]), (eI wh), (eN ((wh % ((6 : Nat) : Int)).toNat))] ++ (zs zf18 30 84))) ?_
 refine wD (tN (wB (wQ (pL ?_))))
 refine wI (n_eql (a := ((wh % ((6 : Nat) : Int)).toNat)) (b := 0) rfl rfl rfl) ?_
 refine wI (d_assign rfl) ?_
 refine wD (tN ?_)
 refine cond_if rfl (fun q0 => ?_) (fun q0 => ?_)
 ·
  refine pL ?_
  refine wI (d_move rfl) ?_
  refine wI (n_add (a := 8) (b := 1) rfl rfl oo) ?_
  refine wI (d_fieldAddr (j := 0) Try.underlying23 rfl s_ti3 (by decide) rfl rfl) ?_
  refine wF ([(zf18 0), u1, (eI wh), vT, (ptr gb 0), (zf18 5), (zf18 6), (zf18 7), (zf18 8), (eN 1), (ptr hb 0)] ++ (zs zf18 11 16 ++ [(Value.agg #[(eN 7), (eN 9), (eN 5)]), (eI wh), (eN ((wh % ((6 : Nat) : Int)).toNat)), (Value.bool (decide (((wh % ((6 : Nat) : Int)).toNat) = 0))), (Value.bool (decide (((wh % ((6 : Nat) : Int)).toNat) = 0))), (eN 1), (eN 9), (ptr hb 0)] ++ (zs zf18 35 79))) ?_
  refine wO (d_store s_ti3 rfl rfl rfl a24 (nb rfl) rfl) ?_
  rintro _ w28 ⟨a29, o30⟩
  replace h1 := h1.stepb o30 in1
  replace a13 := a13.step o30 (fun e => absurd e n_gb_hb)
  replace oW := oW.tailb o30 g_oW_hb
  refine wD ?_
  refine inb_n (tN ?_)
  refine forget (fun zf31 => ([(zf31 0), u1, (zf31 2), vT, (ptr gb 0)] ++ (zs zf31 5 5 ++ [(ptr hb 0)] ++ (zs zf31 11 103)))) kr (fun zf31 => ?_)
  refine wQ (pL ?_)
  refine wI (d_loadAg (vs := [(eI a), (eI b), (eI c)]) ⟨_, Try.underlying23, rfl⟩ s_ti23 rfl a13 rfl rfl) ?_
  refine wI (d_move rfl) ?_
  refine wO (d_call (xl := [.tmp 61, .tmp 62]) (al := [(Value.agg #[(eI a), (eI b), (eI c)]), u1]) Try.func13 kr rfl rfl rfl (nandNewA_ok a b c lb u1 _ (Ps.no h1) (by first | omega | simp))) ?_
  rintro _ w32 ⟨u34, rfl, o33⟩
  replace h1 := h1.step0 o33
  replace a13 := a13.step0 o33
  replace a29 := a29.step0 o33
  replace oW := oW.tail0 o33
  refine wI (d_move rfl) ?_
  refine wI (d_extract (v := u34) rfl rfl) ?_
  refine wF ([(zf31 0), u1, (zf31 2), vT, (ptr gb 0)] ++ (zs zf31 5 5 ++ [(ptr hb 0)] ++ (zs zf31 11 49 ++ [(Value.tuple #[u34, (eN (newA a b c lb))]), (Value.agg #[(eI a), (eI b), (eI c)]), u1, (Value.tuple #[u34, (eN (newA a b c lb))]), u34] ++ (zs zf31 65 49)))) ?_
  refine wI (d_extract (v := (eN (newA a b c lb))) rfl rfl) ?_
  refine wI (d_assign rfl) ?_
  refine wI (d_assign rfl) ?_
  refine wD (tN (wQ (pL ?_)))
  refine wI (d_loadAg (vs := [(eI a), (eI b), (eI c)]) ⟨_, Try.underlying23, rfl⟩ s_ti23 rfl a13 rfl rfl) ?_
  refine wI (d_move rfl) ?_
  refine wF ([(zf31 0), u1, (zf31 2), vT, (ptr gb 0)] ++ (zs zf31 5 5 ++ [(ptr hb 0), u34, (eN (newA a b c lb))] ++ (zs zf31 13 47 ++ [(Value.tuple #[u34, (eN (newA a b c lb))]), (Value.agg #[(eI a), (eI b), (eI c)]), u1, (Value.tuple #[u34, (eN (newA a b c lb))]), u34, (eN (newA a b c lb)), (zf31 66), (Value.agg #[(eI a), (eI b), (eI c)]), u1] ++ (zs zf31 69 45)))) ?_
  refine wO (d_call (xl := [.tmp 67, .tmp 68]) (al := [(Value.agg #[(eI a), (eI b), (eI c)]), u1]) Try.func14 kr rfl rfl rfl (ref7NewA_ok a b c lb u1 _ (Ps.no h1) (by first | omega | simp))) ?_
  rintro _ w35 ⟨u37, rfl, o36⟩
  replace h1 := h1.step0 o36
  replace a13 := a13.step0 o36
  replace a29 := a29.step0 o36
  replace oW := oW.tail0 o36
  refine wI (d_move rfl) ?_
  refine wI (d_extract (v := u37) rfl rfl) ?_
  refine wI (d_extract (v := (eN (newA a b c lb))) rfl rfl) ?_
  refine wI (d_assign rfl) ?_
  refine wF ([(zf31 0), u1, (zf31 2), vT, (ptr gb 0)] ++ (zs zf31 5 5 ++ [(ptr hb 0), u34, (eN (newA a b c lb)), u37] ++ (zs zf31 14 46 ++ [(Value.tuple #[u34, (eN (newA a b c lb))]), (Value.agg #[(eI a), (eI b), (eI c)]), u1, (Value.tuple #[u34, (eN (newA a b c lb))]), u34, (eN (newA a b c lb)), (Value.tuple #[u37, (eN (newA a b c lb))]), (Value.agg #[(eI a), (eI b), (eI c)]), u1, (Value.tuple #[u37, (eN (newA a b c lb))]), u37, (eN (newA a b c lb))] ++ (zs zf31 72 42)))) ?_
  refine wI (d_assign rfl) ?_
  refine wD (tN ?_)
  refine forget (fun zf38 => ([(zf38 0), u1, (zf38 2), vT, (ptr gb 0)] ++ (zs zf38 5 5 ++ [(ptr hb 0), (zf38 11), (eN (newA a b c lb)), (zf38 13), (eN (newA a b c lb))] ++ (zs zf38 15 99)))) kr (fun zf38 => ?_)
  refine wQ (pL ?_)
  refine wI (d_loadAg (vs := [(eN 9), (eN 9), (eN 5)]) ⟨_, Try.underlying23, rfl⟩ s_ti23 rfl a29 rfl rfl) ?_
  refine wO (d_call (xl := [.tmp 73, .const (.slice none 0 0)]) (al := [(Value.agg #[(eN 9), (eN 9), (eN 5)]), (Value.slice none 0 0)]) Try.func13 kr rfl rfl rfl (nandNewA_ok 9 9 5 ([] : List (Int × Int)) (Value.slice none 0 0) _ seq_nilA (by first | omega | simp))) ?_
  rintro _ w39 ⟨u41, rfl, o40⟩
  replace h1 := h1.step0 o40
  replace a13 := a13.step0 o40
  replace a29 := a29.step0 o40
  replace oW := oW.tail0 o40
  refine wI (d_move rfl) ?_
  refine wI (d_extract (v := u41) rfl rfl) ?_
  refine wI (d_extract (v := (eN (newA 9 9 5 ([] : List (Int × Int))))) rfl rfl) ?_
  refine wF ([(zf38 0), u1, (zf38 2), vT, (ptr gb 0)] ++ (zs zf38 5 5 ++ [(ptr hb 0), (zf38 11), (eN (newA a b c lb)), (zf38 13), (eN (newA a b c lb))] ++ (zs zf38 15 57 ++ [(Value.tuple #[u41, (eN (newA 9 9 5 ([] : List (Int × Int))))]), (Value.agg #[(eN 9), (eN 9), (eN 5)]), (Value.tuple #[u41, (eN (newA 9 9 5 ([] : List (Int × Int))))]), u41, (eN (newA 9 9 5 ([] : List (Int × Int))))] ++ (zs zf38 77 37)))) ?_
  refine wI (d_assign rfl) ?_
  refine wI (d_assign rfl) ?_
  refine wD (tN (wQ (pL ?_)))
  refine wI (d_loadAg (vs := [(eI a), (eI b), (eI c)]) ⟨_, Try.underlying23, rfl⟩ s_ti23 rfl a13 rfl rfl) ?_
  refine wO (d_call (xl := [.tmp 78]) (al := [(Value.agg #[(eI a), (eI b), (eI c)])]) Try.func15 kr rfl rfl rfl (law7Make_ok a b c _)) ?_
  rintro _ w42 ⟨rfl, o43⟩
  replace h1 := h1.step0 o43
  replace a13 := a13.step0 o43
  replace a29 := a29.step0 o43
  replace oW := oW.tail0 o43
  refine wI (d_move rfl) ?_
  refine wF ([(zf38 0), u1, (zf38 2), vT, (ptr gb 0)] ++ (zs zf38 5 5 ++ [(ptr hb 0), (zf38 11), (eN (newA a b c lb)), (zf38 13), (eN (newA a b c lb)), u41, (eN (newA 9 9 5 ([] : List (Int × Int))))] ++ (zs zf38 17 55 ++ [(Value.tuple #[u41, (eN (newA 9 9 5 ([] : List (Int × Int))))]), (Value.agg #[(eN 9), (eN 9), (eN 5)]), (Value.tuple #[u41, (eN (newA 9 9 5 ([] : List (Int × Int))))]), u41, (eN (newA 9 9 5 ([] : List (Int × Int)))), (zf38 77), (Value.agg #[(eI a), (eI b), (eI c)]), (Value.agg #[(eN (6 + (a % ((3 : Nat) : Int)).toNat)), (eN (8 + (b % ((5 : Nat) : Int)).toNat)), (eN (4 + (c % ((5 : Nat) : Int)).toNat))]), u1] ++ (zs zf38 81 33)))) ?_
  refine wO (d_call (xl := [.tmp 79, .tmp 80]) (al := [(Value.agg #[(eN (6 + (a % ((3 : Nat) : Int)).toNat)), (eN (8 + (b % ((5 : Nat) : Int)).toNat)), (eN (4 + (c % ((5 : Nat) : Int)).toNat))]), u1]) Try.func13 kr rfl rfl rfl (nandNewA_ok ((6 + (a % ((3 : Nat) : Int)).toNat : Nat) : Int) ((8 + (b % ((5 : Nat) : Int)).toNat : Nat) : Int) ((4 + (c % ((5 : Nat) : Int)).toNat : Nat) : Int) lb u1 _ (Ps.no h1) (by first | omega | simp))) ?_
  rintro _ w44 ⟨u46, rfl, o45⟩
  replace h1 := h1.step0 o45
  replace a13 := a13.step0 o45
  replace a29 := a29.step0 o45
  replace oW := oW.tail0 o45
  refine wI (d_move rfl) ?_
  refine wI (d_extract (v := u46) rfl rfl) ?_
  refine wI (d_extract (v := (eN (newA ((6 + (a % ((3 : Nat) : Int)).toNat : Nat) : Int) ((8 + (b % ((5 : Nat) : Int)).toNat : Nat) : Int) ((4 + (c % ((5 : Nat) : Int)).toNat : Nat) : Int) lb))) rfl rfl) ?_
  refine wI (d_assign rfl) ?_
  refine wF ([(zf38 0), u1, (zf38 2), vT, (ptr gb 0)] ++ (zs zf38 5 5 ++ [(ptr hb 0), (zf38 11), (eN (newA a b c lb)), (zf38 13), (eN (newA a b c lb)), u41, (eN (newA 9 9 5 ([] : List (Int × Int)))), u46] ++ (zs zf38 18 54 ++ [(Value.tuple #[u41, (eN (newA 9 9 5 ([] : List (Int × Int))))]), (Value.agg #[(eN 9), (eN 9), (eN 5)]), (Value.tuple #[u41, (eN (newA 9 9 5 ([] : List (Int × Int))))]), u41, (eN (newA 9 9 5 ([] : List (Int × Int)))), (Value.tuple #[u46, (eN (newA ((6 + (a % ((3 : Nat) : Int)).toNat : Nat) : Int) ((8 + (b % ((5 : Nat) : Int)).toNat : Nat) : Int) ((4 + (c % ((5 : Nat) : Int)).toNat : Nat) : Int) lb))]), (Value.agg #[(eI a), (eI b), (eI c)]), (Value.agg #[(eN (6 + (a % ((3 : Nat) : Int)).toNat)), (eN (8 + (b % ((5 : Nat) : Int)).toNat)), (eN (4 + (c % ((5 : Nat) : Int)).toNat))]), u1, (Value.tuple #[u46, (eN (newA ((6 + (a % ((3 : Nat) : Int)).toNat : Nat) : Int) ((8 + (b % ((5 : Nat) : Int)).toNat : Nat) : Int) ((4 + (c % ((5 : Nat) : Int)).toNat : Nat) : Int) lb))]), u46, (eN (newA ((6 + (a % ((3 : Nat) : Int)).toNat : Nat) : Int) ((8 + (b % ((5 : Nat) : Int)).toNat : Nat) : Int) ((4 + (c % ((5 : Nat) : Int)).toNat : Nat) : Int) lb))] ++ (zs zf38 84 30)))) ?_
  refine wI (d_assign rfl) ?_
  refine wD (tN ?_)
  refine forget (fun zf47 => ([(zf47 0), u1, (zf47 2), vT, (ptr gb 0)] ++ (zs zf47 5 7 ++ [(eN (newA a b c lb)), (zf47 13), (eN (newA a b c lb)), (zf47 15), (eN (newA 9 9 5 ([] : List (Int × Int)))), (zf47 17), (eN (newA ((6 + (a % ((3 : Nat) : Int)).toNat : Nat) : Int) ((8 + (b % ((5 : Nat) : Int)).toNat : Nat) : Int) ((4 + (c % ((5 : Nat) : Int)).toNat : Nat) : Int) lb))] ++ (zs zf47 19 95)))) kr (fun zf47 => ?_)
  refine wQ (pL ?_)
  refine wI (d_loadAg (vs := [(eI a), (eI b), (eI c)]) ⟨_, Try.underlying23, rfl⟩ s_ti23 rfl a13 rfl rfl) ?_
  refine wO (d_call (xl := [.tmp 85]) (al := [(Value.agg #[(eI a), (eI b), (eI c)])]) Try.func15 kr rfl rfl rfl (law7Make_ok a b c _)) ?_
  rintro _ w48 ⟨rfl, o49⟩
  replace h1 := h1.step0 o49
  replace a13 := a13.step0 o49
  replace a29 := a29.step0 o49
  replace oW := oW.tail0 o49
  refine wI (d_move rfl) ?_
  refine wO (d_call (xl := [.tmp 86, .tmp 87]) (al := [(Value.agg #[(eN (6 + (a % ((3 : Nat) : Int)).toNat)), (eN (8 + (b % ((5 : Nat) : Int)).toNat)), (eN (4 + (c % ((5 : Nat) : Int)).toNat))]), u1]) Try.func14 kr rfl rfl rfl (ref7NewA_ok ((6 + (a % ((3 : Nat) : Int)).toNat : Nat) : Int) ((8 + (b % ((5 : Nat) : Int)).toNat : Nat) : Int) ((4 + (c % ((5 : Nat) : Int)).toNat : Nat) : Int) lb u1 _ (Ps.no h1) (by first | omega | simp))) ?_
  rintro _ w50 ⟨u52, rfl, o51⟩
  replace h1 := h1.step0 o51
  replace a13 := a13.step0 o51
  replace a29 := a29.step0 o51
  replace oW := oW.tail0 o51
  refine wI (d_move rfl) ?_
  refine wF ([(zf47 0), u1, (zf47 2), vT, (ptr gb 0)] ++ (zs zf47 5 7 ++ [(eN (newA a b c lb)), (zf47 13), (eN (newA a b c lb)), (zf47 15), (eN (newA 9 9 5 ([] : List (Int × Int)))), (zf47 17), (eN (newA ((6 + (a % ((3 : Nat) : Int)).toNat : Nat) : Int) ((8 + (b % ((5 : Nat) : Int)).toNat : Nat) : Int) ((4 + (c % ((5 : Nat) : Int)).toNat : Nat) : Int) lb))] ++ (zs zf47 19 65 ++ [(Value.tuple #[u52, (eN (newA ((6 + (a % ((3 : Nat) : Int)).toNat : Nat) : Int) ((8 + (b % ((5 : Nat) : Int)).toNat : Nat) : Int) ((4 + (c % ((5 : Nat) : Int)).toNat : Nat) : Int) lb))]), (Value.agg #[(eI a), (eI b), (eI c)]), (Value.agg #[(eN (6 + (a % ((3 : Nat) : Int)).toNat)), (eN (8 + (b % ((5 : Nat) : Int)).toNat)), (eN (4 + (c % ((5 : Nat) : Int)).toNat))]), u1, (Value.tuple #[u52, (eN (newA ((6 + (a % ((3 : Nat) : Int)).toNat : Nat) : Int) ((8 + (b % ((5 : Nat) : Int)).toNat : Nat) : Int) ((4 + (c % ((5 : Nat) : Int)).toNat : Nat) : Int) lb))])] ++ (zs zf47 89 25)))) ?_
  refine wI (d_extract (v := u52) rfl rfl) ?_
  refine wI (d_extract (v := (eN (newA ((6 + (a % ((3 : Nat) : Int)).toNat : Nat) : Int) ((8 + (b % ((5 : Nat) : Int)).toNat : Nat) : Int) ((4 + (c % ((5 : Nat) : Int)).toNat : Nat) : Int) lb))) rfl rfl) ?_
  refine wI (d_assign rfl) ?_
  refine wI (d_assign rfl) ?_
  refine wD (tN ?_)
  refine forget (fun zf53 => ([(zf53 0), (zf53 1), (zf53 2), vT] ++ (zs zf53 4 8 ++ [(eN (newA a b c lb)), (zf53 13), (eN (newA a b c lb)), (zf53 15), (eN (newA 9 9 5 ([] : List (Int × Int)))), (zf53 17), (eN (newA ((6 + (a % ((3 : Nat) : Int)).toNat : Nat) : Int) ((8 + (b % ((5 : Nat) : Int)).toNat : Nat) : Int) ((4 + (c % ((5 : Nat) : Int)).toNat : Nat) : Int) lb)), (zf53 19), (eN (newA ((6 + (a % ((3 : Nat) : Int)).toNat : Nat) : Int) ((8 + (b % ((5 : Nat) : Int)).toNat : Nat) : Int) ((4 + (c % ((5 : Nat) : Int)).toNat : Nat) : Int) lb))] ++ (zs zf53 21 93)))) kr (fun zf53 => ?_)
  refine wQ (pL ?_)
  refine wI (d_move rfl) ?_
  refine wI (d_move rfl) ?_
  refine wI (n_eql (a := (newA a b c lb)) (b := (newA a b c lb)) rfl rfl (decide_eq_true rfl)) ?_
  refine wI (d_move rfl) ?_
  refine wG (d_move rfl) ?_
  refine wF ([(zf53 0), (zf53 1), (zf53 2), vT] ++ (zs zf53 4 8 ++ [(eN (newA a b c lb)), (zf53 13), (eN (newA a b c lb)), (zf53 15), (eN (newA 9 9 5 ([] : List (Int × Int)))), (zf53 17), (eN (newA ((6 + (a % ((3 : Nat) : Int)).toNat : Nat) : Int) ((8 + (b % ((5 : Nat) : Int)).toNat : Nat) : Int) ((4 + (c % ((5 : Nat) : Int)).toNat : Nat) : Int) lb)), (zf53 19), (eN (newA ((6 + (a % ((3 : Nat) : Int)).toNat : Nat) : Int) ((8 + (b % ((5 : Nat) : Int)).toNat : Nat) : Int) ((4 + (c % ((5 : Nat) : Int)).toNat : Nat) : Int) lb))] ++ (zs zf53 21 70 ++ [(eN (newA a b c lb)), (eN (newA a b c lb)), vT, vT, (eN (newA ((6 + (a % ((3 : Nat) : Int)).toNat : Nat) : Int) ((8 + (b % ((5 : Nat) : Int)).toNat : Nat) : Int) ((4 + (c % ((5 : Nat) : Int)).toNat : Nat) : Int) lb))] ++ (zs zf53 96 18)))) ?_
  refine wG (d_move rfl) ?_
  refine wG (n_eql (a := (newA ((6 + (a % ((3 : Nat) : Int)).toNat : Nat) : Int) ((8 + (b % ((5 : Nat) : Int)).toNat : Nat) : Int) ((4 + (c % ((5 : Nat) : Int)).toNat : Nat) : Int) lb)) (b := (newA ((6 + (a % ((3 : Nat) : Int)).toNat : Nat) : Int) ((8 + (b % ((5 : Nat) : Int)).toNat : Nat) : Int) ((4 + (c % ((5 : Nat) : Int)).toNat : Nat) : Int) lb)) rfl rfl (decide_eq_true rfl)) ?_
  refine wI (d_pick (b := true) (v := vT) rfl rfl) ?_
  refine wI (d_move rfl) ?_
  refine wG (d_move rfl) ?_
  refine wF ([(zf53 0), (zf53 1), (zf53 2), vT] ++ (zs zf53 4 8 ++ [(eN (newA a b c lb)), (zf53 13), (eN (newA a b c lb)), (zf53 15), (eN (newA 9 9 5 ([] : List (Int × Int)))), (zf53 17), (eN (newA ((6 + (a % ((3 : Nat) : Int)).toNat : Nat) : Int) ((8 + (b % ((5 : Nat) : Int)).toNat : Nat) : Int) ((4 + (c % ((5 : Nat) : Int)).toNat : Nat) : Int) lb)), (zf53 19), (eN (newA ((6 + (a % ((3 : Nat) : Int)).toNat : Nat) : Int) ((8 + (b % ((5 : Nat) : Int)).toNat : Nat) : Int) ((4 + (c % ((5 : Nat) : Int)).toNat : Nat) : Int) lb))] ++ (zs zf53 21 70 ++ [(eN (newA a b c lb)), (eN (newA a b c lb)), vT, vT, (eN (newA ((6 + (a % ((3 : Nat) : Int)).toNat : Nat) : Int) ((8 + (b % ((5 : Nat) : Int)).toNat : Nat) : Int) ((4 + (c % ((5 : Nat) : Int)).toNat : Nat) : Int) lb)), (eN (newA ((6 + (a % ((3 : Nat) : Int)).toNat : Nat) : Int) ((8 + (b % ((5 : Nat) : Int)).toNat : Nat) : Int) ((4 + (c % ((5 : Nat) : Int)).toNat : Nat) : Int) lb)), vT, vT, vT, (eN (newA 9 9 5 ([] : List (Int × Int))))] ++ (zs zf53 101 13)))) ?_
  refine wG (n_eql (a := (newA 9 9 5 ([] : List (Int × Int)))) (b := 0) rfl rfl (decide_eq_false (by rw [newA_no (by unfold fitsA; omega)]; decide))) ?_
  refine wG (d_move rfl) ?_
  refine wG (d_not rfl rfl) ?_
  refine wG (d_beql Try.underlying4 rfl rfl rfl) ?_
  refine wI (d_pick (b := true) (v := vT) rfl rfl) ?_
  refine wF ([(zf53 0), (zf53 1), (zf53 2), vT] ++ (zs zf53 4 8 ++ [(eN (newA a b c lb)), (zf53 13), (eN (newA a b c lb)), (zf53 15), (eN (newA 9 9 5 ([] : List (Int × Int)))), (zf53 17), (eN (newA ((6 + (a % ((3 : Nat) : Int)).toNat : Nat) : Int) ((8 + (b % ((5 : Nat) : Int)).toNat : Nat) : Int) ((4 + (c % ((5 : Nat) : Int)).toNat : Nat) : Int) lb)), (zf53 19), (eN (newA ((6 + (a % ((3 : Nat) : Int)).toNat : Nat) : Int) ((8 + (b % ((5 : Nat) : Int)).toNat : Nat) : Int) ((4 + (c % ((5 : Nat) : Int)).toNat : Nat) : Int) lb))] ++ (zs zf53 21 70 ++ [(eN (newA a b c lb)), (eN (newA a b c lb)), vT, vT, (eN (newA ((6 + (a % ((3 : Nat) : Int)).toNat : Nat) : Int) ((8 + (b % ((5 : Nat) : Int)).toNat : Nat) : Int) ((4 + (c % ((5 : Nat) : Int)).toNat : Nat) : Int) lb)), (eN (newA ((6 + (a % ((3 : Nat) : Int)).toNat : Nat) : Int) ((8 + (b % ((5 : Nat) : Int)).toNat : Nat) : Int) ((4 + (c % ((5 : Nat) : Int)).toNat : Nat) : Int) lb)), vT, vT, vT, (eN (newA 9 9 5 ([] : List (Int × Int)))), vF, vT, vF, vT, vT] ++ (zs zf53 106 8)))) ?_
  refine wI (d_move rfl) ?_
  refine wG (d_move rfl) ?_
  refine wG (d_not rfl rfl) ?_
  refine wG (d_move rfl) ?_
  refine wG (d_move rfl) ?_
  refine wF ([(zf53 0), (zf53 1), (zf53 2), vT] ++ (zs zf53 4 8 ++ [(eN (newA a b c lb)), (zf53 13), (eN (newA a b c lb)), (zf53 15), (eN (newA 9 9 5 ([] : List (Int × Int)))), (zf53 17), (eN (newA ((6 + (a % ((3 : Nat) : Int)).toNat : Nat) : Int) ((8 + (b % ((5 : Nat) : Int)).toNat : Nat) : Int) ((4 + (c % ((5 : Nat) : Int)).toNat : Nat) : Int) lb)), (zf53 19), (eN (newA ((6 + (a % ((3 : Nat) : Int)).toNat : Nat) : Int) ((8 + (b % ((5 : Nat) : Int)).toNat : Nat) : Int) ((4 + (c % ((5 : Nat) : Int)).toNat : Nat) : Int) lb))] ++ (zs zf53 21 70 ++ [(eN (newA a b c lb)), (eN (newA a b c lb)), vT, vT, (eN (newA ((6 + (a % ((3 : Nat) : Int)).toNat : Nat) : Int) ((8 + (b % ((5 : Nat) : Int)).toNat : Nat) : Int) ((4 + (c % ((5 : Nat) : Int)).toNat : Nat) : Int) lb)), (eN (newA ((6 + (a % ((3 : Nat) : Int)).toNat : Nat) : Int) ((8 + (b % ((5 : Nat) : Int)).toNat : Nat) : Int) ((4 + (c % ((5 : Nat) : Int)).toNat : Nat) : Int) lb)), vT, vT, vT, (eN (newA 9 9 5 ([] : List (Int × Int)))), vF, vT, vF, vT, vT, vT, vT, vF, vF, (eN (newA 9 9 5 ([] : List (Int × Int)))), (zf53 111), (zf53 112), (zf53 113)]))) ?_
  refine wG (n_eql (a := (newA 9 9 5 ([] : List (Int × Int)))) (b := 1) rfl rfl (decide_eq_true (newA_no (by unfold fitsA; omega)))) ?_
  refine wG (d_pick (b := false) (v := vT) rfl rfl) ?_
  refine wI (d_pick (b := true) (v := vT) rfl rfl) ?_
  refine wI (d_assign rfl) ?_
  refine wD (tN ?_)
  refine forget (fun zf54 => (zs zf54 0 8 ++ [vT] ++ (zs zf54 9 105))) kr (fun zf54 => ?_)
  refine wpIn_ret ?_
  refine leave0 (v := vT) (res1 Try.results3 rfl) ?_
  exact ⟨rfl, oW⟩
 refine wQ (pL ?_)
 refine wI (n_eql (a := ((wh % ((6 : Nat) : Int)).toNat)) (b := 1) rfl rfl rfl) ?_
 refine wI (d_assign rfl) ?_
 refine wD (tN ?_)
 refine cond_if rfl (fun q1 => ?_) (fun q1 => ?_)
 ·
  refine pL ?_
  refine wI (d_move rfl) ?_
  refine wF ([(zf18 0), u1, (eI wh), vT, (ptr gb 0), (zf18 5), (zf18 6), (zf18 7), (zf18 8), (eN 1), (ptr hb 0)] ++ (zs zf18 11 16 ++ [(Value.agg #[(eN 7), (eN 9), (eN 5)]), (eI wh), (eN ((wh % ((6 : Nat) : Int)).toNat)), (Value.bool (decide (((wh % ((6 : Nat) : Int)).toNat) = 0))), (Value.bool (decide (((wh % ((6 : Nat) : Int)).toNat) = 0))), (zf18 32), (zf18 33), (zf18 34), (Value.bool (decide (((wh % ((6 : Nat) : Int)).toNat) = 1))), (Value.bool (decide (((wh % ((6 : Nat) : Int)).toNat) = 1))), (eN 1)] ++ (zs zf18 38 76))) ?_
  refine wI (n_sub (a := 6) (b := 1) rfl rfl oo oo) ?_
  refine wI (d_fieldAddr (j := 0) Try.underlying23 rfl s_ti3 (by decide) rfl rfl) ?_
  refine wO (d_store s_ti3 rfl rfl rfl a24 (nb rfl) rfl) ?_
  rintro _ w55 ⟨a56, o57⟩
  replace h1 := h1.stepb o57 in1
  replace a13 := a13.step o57 (fun e => absurd e n_gb_hb)
  replace oW := oW.tailb o57 g_oW_hb
  refine wD ?_
  refine inb_n (tN ?_)
  refine forget (fun zf58 => ([(zf58 0), u1, (zf58 2), vT, (ptr gb 0)] ++ (zs zf58 5 5 ++ [(ptr hb 0)] ++ (zs zf58 11 103)))) kr (fun zf58 => ?_)
  refine wQ (pL ?_)
  refine wI (d_loadAg (vs := [(eI a), (eI b), (eI c)]) ⟨_, Try.underlying23, rfl⟩ s_ti23 rfl a13 rfl rfl) ?_
  refine wI (d_move rfl) ?_
  refine wO (d_call (xl := [.tmp 61, .tmp 62]) (al := [(Value.agg #[(eI a), (eI b), (eI c)]), u1]) Try.func13 kr rfl rfl rfl (nandNewA_ok a b c lb u1 _ (Ps.no h1) (by first | omega | simp))) ?_
  rintro _ w59 ⟨u61, rfl, o60⟩
  replace h1 := h1.step0 o60
  replace a13 := a13.step0 o60
  replace a56 := a56.step0 o60
  replace oW := oW.tail0 o60
  refine wI (d_move rfl) ?_
  refine wI (d_extract (v := u61) rfl rfl) ?_
  refine wF ([(zf58 0), u1, (zf58 2), vT, (ptr gb 0)] ++ (zs zf58 5 5 ++ [(ptr hb 0)] ++ (zs zf58 11 49 ++ [(Value.tuple #[u61, (eN (newA a b c lb))]), (Value.agg #[(eI a), (eI b), (eI c)]), u1, (Value.tuple #[u61, (eN (newA a b c lb))]), u61] ++ (zs zf58 65 49)))) ?_
  refine wI (d_extract (v := (eN (newA a b c lb))) rfl rfl) ?_
  refine wI (d_assign rfl) ?_
  refine wI (d_assign rfl) ?_
  refine wD (tN (wQ (pL ?_)))
  refine wI (d_loadAg (vs := [(eI a), (eI b), (eI c)]) ⟨_, Try.underlying23, rfl⟩ s_ti23 rfl a13 rfl rfl) ?_
  refine wI (d_move rfl) ?_
  refine wF ([(zf58 0), u1, (zf58 2), vT, (ptr gb 0)] ++ (zs zf58 5 5 ++ [(ptr hb 0), u61, (eN (newA a b c lb))] ++ (zs zf58 13 47 ++ [(Value.tuple #[u61, (eN (newA a b c lb))]), (Value.agg #[(eI a), (eI b), (eI c)]), u1, (Value.tuple #[u61, (eN (newA a b c lb))]), u61, (eN (newA a b c lb)), (zf58 66), (Value.agg #[(eI a), (eI b), (eI c)]), u1] ++ (zs zf58 69 45)))) ?_
  refine wO (d_call (xl := [.tmp 67, .tmp 68]) (al := [(Value.agg #[(eI a), (eI b), (eI c)]), u1]) Try.func14 kr rfl rfl rfl (ref7NewA_ok a b c lb u1 _ (Ps.no h1) (by first | omega | simp))) ?_
  rintro _ w62 ⟨u64, rfl, o63⟩
  replace h1 := h1.step0 o63
  replace a13 := a13.step0 o63
  replace a56 := a56.step0 o63
  replace oW := oW.tail0 o63
  refine wI (d_move rfl) ?_
  refine wI (d_extract (v := u64) rfl rfl) ?_
  refine wI (d_extract (v := (eN (newA a b c lb))) rfl rfl) ?_
  refine wI (d_assign rfl) ?_
  refine wF ([(zf58 0), u1, (zf58 2), vT, (ptr gb 0)] ++ (zs zf58 5 5 ++ [(ptr hb 0), u61, (eN (newA a b c lb)), u64] ++ (zs zf58 14 46 ++ [(Value.tuple #[u61, (eN (newA a b c lb))]), (Value.agg #[(eI a), (eI b), (eI c)]), u1, (Value.tuple #[u61, (eN (newA a b c lb))]), u61, (eN (newA a b c lb)), (Value.tuple #[u64, (eN (newA a b c lb))]), (Value.agg #[(eI a), (eI b), (eI c)]), u1, (Value.tuple #[u64, (eN (newA a b c lb))]), u64, (eN (newA a b c lb))] ++ (zs zf58 72 42)))) ?_
  refine wI (d_assign rfl) ?_
  refine wD (tN ?_)
  refine forget (fun zf65 => ([(zf65 0), u1, (zf65 2), vT, (ptr gb 0)] ++ (zs zf65 5 5 ++ [(ptr hb 0), (zf65 11), (eN (newA a b c lb)), (zf65 13), (eN (newA a b c lb))] ++ (zs zf65 15 99)))) kr (fun zf65 => ?_)
  refine wQ (pL ?_)
  refine wI (d_loadAg (vs := [(eN 5), (eN 9), (eN 5)]) ⟨_, Try.underlying23, rfl⟩ s_ti23 rfl a56 rfl rfl) ?_
  refine wO (d_call (xl := [.tmp 73, .const (.slice none 0 0)]) (al := [(Value.agg #[(eN 5), (eN 9), (eN 5)]), (Value.slice none 0 0)]) Try.func13 kr rfl rfl rfl (nandNewA_ok 5 9 5 ([] : List (Int × Int)) (Value.slice none 0 0) _ seq_nilA (by first | omega | simp))) ?_
  rintro _ w66 ⟨u68, rfl, o67⟩
  replace h1 := h1.step0 o67
  replace a13 := a13.step0 o67
  replace a56 := a56.step0 o67
  replace oW := oW.tail0 o67
  refine wI (d_move rfl) ?_
  refine wI (d_extract (v := u68) rfl rfl) ?_
  refine wI (d_extract (v := (eN (newA 5 9 5 ([] : List (Int × Int))))) rfl rfl) ?_
  refine wF ([(zf65 0), u1, (zf65 2), vT, (ptr gb 0)] ++ (zs zf65 5 5 ++ [(ptr hb 0), (zf65 11), (eN (newA a b c lb)), (zf65 13), (eN (newA a b c lb))] ++ (zs zf65 15 57 ++ [(Value.tuple #[u68, (eN (newA 5 9 5 ([] : List (Int × Int))))]), (Value.agg #[(eN 5), (eN 9), (eN 5)]), (Value.tuple #[u68, (eN (newA 5 9 5 ([] : List (Int × Int))))]), u68, (eN (newA 5 9 5 ([] : List (Int × Int))))] ++ (zs zf65 77 37)))) ?_
  refine wI (d_assign rfl) ?_
  refine wI (d_assign rfl) ?_
  refine wD (tN (wQ (pL ?_)))
  refine wI (d_loadAg (vs := [(eI a), (eI b), (eI c)]) ⟨_, Try.underlying23, rfl⟩ s_ti23 rfl a13 rfl rfl) ?_
  refine wO (d_call (xl := [.tmp 78]) (al := [(Value.agg #[(eI a), (eI b), (eI c)])]) Try.func15 kr rfl rfl rfl (law7Make_ok a b c _)) ?_
  rintro _ w69 ⟨rfl, o70⟩
  replace h1 := h1.step0 o70
  replace a13 := a13.step0 o70
  replace a56 := a56.step0 o70
  replace oW := oW.tail0 o70
  refine wI (d_move rfl) ?_
  refine wF ([(zf65 0), u1, (zf65 2), vT, (ptr gb 0)] ++ (zs zf65 5 5 ++ [(ptr hb 0), (zf65 11), (eN (newA a b c lb)), (zf65 13), (eN (newA a b c lb)), u68, (eN (newA 5 9 5 ([] : List (Int × Int))))] ++ (zs zf65 17 55 ++ [(Value.tuple #[u68, (eN (newA 5 9 5 ([] : List (Int × Int))))]), (Value.agg #[(eN 5), (eN 9), (eN 5)]), (Value.tuple #[u68, (eN (newA 5 9 5 ([] : List (Int × Int))))]), u68, (eN (newA 5 9 5 ([] : List (Int × Int)))), (zf65 77), (Value.agg #[(eI a), (eI b), (eI c)]), (Value.agg #[(eN (6 + (a % ((3 : Nat) : Int)).toNat)), (eN (8 + (b % ((5 : Nat) : Int)).toNat)), (eN (4 + (c % ((5 : Nat) : Int)).toNat))]), u1] ++ (zs zf65 81 33)))) ?_
  refine wO (d_call (xl := [.tmp 79, .tmp 80]) (al := [(Value.agg #[(eN (6 + (a % ((3 : Nat) : Int)).toNat)), (eN (8 + (b % ((5 : Nat) : Int)).toNat)), (eN (4 + (c % ((5 : Nat) : Int)).toNat))]), u1]) Try.func13 kr rfl rfl rfl (nandNewA_ok ((6 + (a % ((3 : Nat) : Int)).toNat : Nat) : Int) ((8 + (b % ((5 : Nat) : Int)).toNat : Nat) : Int) ((4 + (c % ((5 : Nat) : Int)).toNat : Nat) : Int) lb u1 _ (Ps.no h1) (by first | omega | simp))) ?_
  rintro _ w71 ⟨u73, rfl, o72⟩
  replace h1 := h1.step0 o72
  replace a13 := a13.step0 o72
  replace a56 := a56.step0 o72
  replace oW := oW.tail0 o72
  refine wI (d_move rfl) ?_
  refine wI (d_extract (v := u73) rfl rfl) ?_
  refine wI (d_extract (v := (eN (newA ((6 + (a % ((3 : Nat) : Int)).toNat : Nat) : Int) ((8 + (b % ((5 : Nat) : Int)).toNat : Nat) : Int) ((4 + (c % ((5 : Nat) : Int)).toNat : Nat) : Int) lb))) rfl rfl) ?_
  refine wI (d_assign rfl) ?_
  refine wF ([(zf65 0), u1, (zf65 2), vT, (ptr gb 0)] ++ (zs zf65 5 5 ++ [(ptr hb 0), (zf65 11), (eN (newA a b c lb)), (zf65 13), (eN (newA a b c lb)), u68, (eN (newA 5 9 5 ([] : List (Int × Int)))), u73] ++ (zs zf65 18 54 ++ [(Value.tuple #[u68, (eN (newA 5 9 5 ([] : List (Int × Int))))]), (Value.agg #[(eN 5), (eN 9), (eN 5)]), (Value.tuple #[u68, (eN (newA 5 9 5 ([] : List (Int × Int))))]), u68, (eN (newA 5 9 5 ([] : List (Int × Int)))), (Value.tuple #[u73, (eN (newA ((6 + (a % ((3 : Nat) : Int)).toNat : Nat) : Int) ((8 + (b % ((5 : Nat) : Int)).toNat : Nat) : Int) ((4 + (c % ((5 : Nat) : Int)).toNat : Nat) : Int) lb))]), (Value.agg #[(eI a), (eI b), (eI c)]), (Value.agg #[(eN (6 + (a % ((3 : Nat) : Int)).toNat)), (eN (8 + (b % ((5 : Nat) : Int)).toNat)), (eN (4 + (c % ((5 : Nat) : Int)).toNat))]), u1, (Value.tuple #[u73, (eN (newA ((6 + (a % ((3 : Nat) : Int)).toNat : Nat) : Int) ((8 + (b % ((5 : Nat) : Int)).toNat : Nat) : Int) ((4 + (c % ((5 : Nat) : Int)).toNat : Nat) : Int) lb))]), u73, (eN (newA ((6 + (a % ((3 : Nat) : Int)).toNat : Nat) : Int) ((8 + (b % ((5 : Nat) : Int)).toNat : Nat) : Int) ((4 + (c % ((5 : Nat) : Int)).toNat : Nat) : Int) lb))] ++ (zs zf65 84 30)))) ?_
  refine wI (d_assign rfl) ?_
  refine wD (tN ?_)
  refine forget (fun zf74 => ([(zf74 0), u1, (zf74 2), vT, (ptr gb 0)] ++ (zs zf74 5 7 ++ [(eN (newA a b c lb)), (zf74 13), (eN (newA a b c lb)), (zf74 15), (eN (newA 5 9 5 ([] : List (Int × Int)))), (zf74 17), (eN (newA ((6 + (a % ((3 : Nat) : Int)).toNat : Nat) : Int) ((8 + (b % ((5 : Nat) : Int)).toNat : Nat) : Int) ((4 + (c % ((5 : Nat) : Int)).toNat : Nat) : Int) lb))] ++ (zs zf74 19 95)))) kr (fun zf74 => ?_)
  refine wQ (pL ?_)
  refine wI (d_loadAg (vs := [(eI a), (eI b), (eI c)]) ⟨_, Try.underlying23, rfl⟩ s_ti23 rfl a13 rfl rfl) ?_
  refine wO (d_call (xl := [.tmp 85]) (al := [(Value.agg #[(eI a), (eI b), (eI c)])]) Try.func15 kr rfl rfl rfl (law7Make_ok a b c _)) ?_
  rintro _ w75 ⟨rfl, o76⟩
  replace h1 := h1.step0 o76
  replace a13 := a13.step0 o76
  replace a56 := a56.step0 o76
  replace oW := oW.tail0 o76
  refine wI (d_move rfl) ?_
  refine wO (d_call (xl := [.tmp 86, .tmp 87]) (al := [(Value.agg #[(eN (6 + (a % ((3 : Nat) : Int)).toNat)), (eN (8 + (b % ((5 : Nat) : Int)).toNat)), (eN (4 + (c % ((5 : Nat) : Int)).toNat))]), u1]) Try.func14 kr rfl rfl rfl (ref7NewA_ok ((6 + (a % ((3 : Nat) : Int)).toNat : Nat) : Int) ((8 + (b % ((5 : Nat) : Int)).toNat : Nat) : Int) ((4 + (c % ((5 : Nat) : Int)).toNat : Nat) : Int) lb u1 _ (Ps.no h1) (by first | omega | simp))) ?_
  rintro _ w77 ⟨u79, rfl, o78⟩
  replace h1 := h1.step0 o78
  replace a13 := a13.step0 o78
  replace a56 := a56.step0 o78
  replace oW := oW.tail0 o78
  refine wI (d_move rfl) ?_
  refine wF ([(zf74 0), u1, (zf74 2), vT, (ptr gb 0)] ++ (zs zf74 5 7 ++ [(eN (newA a b c lb)), (zf74 13), (eN (newA a b c lb)), (zf74 15), (eN (newA 5 9 5 ([] : List (Int × Int)))), (zf74 17), (eN (newA ((6 + (a % ((3 : Nat) : Int)).toNat : Nat) : Int) ((8 + (b % ((5 : Nat) : Int)).toNat : Nat) : Int) ((4 + (c % ((5 : Nat) : Int)).toNat : Nat) : Int) lb))] ++ (zs zf74 19 65 ++ [(Value.tuple #[u79, (eN (newA ((6 + (a % ((3 : Nat) : Int)).toNat : Nat) : Int) ((8 + (b % ((5 : Nat) : Int)).toNat : Nat) : Int) ((4 + (c % ((5 : Nat) : Int)).toNat : Nat) : Int) lb))]), (Value.agg #[(eI a), (eI b), (eI c)]), (Value.agg #[(eN (6 + (a % ((3 : Nat) : Int)).toNat)), (eN (8 + (b % ((5 : Nat) : Int)).toNat)), (eN (4 + (c % ((5 : Nat) : Int)).toNat))]), u1, (Value.tuple #[u79, (eN (newA ((6 + (a % ((3 : Nat) : Int)).toNat : Nat) : Int) ((8 + (b % ((5 : Nat) : Int)).toNat : Nat) : Int) ((4 + (c % ((5 : Nat) : Int)).toNat : Nat) : Int) lb))])] ++ (zs zf74 89 25)))) ?_
  refine wI (d_extract (v := u79) rfl rfl) ?_
  refine wI (d_extract (v := (eN (newA ((6 + (a % ((3 : Nat) : Int)).toNat : Nat) : Int) ((8 + (b % ((5 : Nat) : Int)).toNat : Nat) : Int) ((4 + (c % ((5 : Nat) : Int)).toNat : Nat) : Int) lb))) rfl rfl) ?_
  refine wI (d_assign rfl) ?_
  refine wI (d_assign rfl) ?_
  refine wD (tN ?_)
  refine forget (fun zf80 => ([(zf80 0), (zf80 1), (zf80 2), vT] ++ (zs zf80 4 8 ++ [(eN (newA a b c lb)), (zf80 13), (eN (newA a b c lb)), (zf80 15), (eN (newA 5 9 5 ([] : List (Int × Int)))), (zf80 17), (eN (newA ((6 + (a % ((3 : Nat) : Int)).toNat : Nat) : Int) ((8 + (b % ((5 : Nat) : Int)).toNat : Nat) : Int) ((4 + (c % ((5 : Nat) : Int)).toNat : Nat) : Int) lb)), (zf80 19), (eN (newA ((6 + (a % ((3 : Nat) : Int)).toNat : Nat) : Int) ((8 + (b % ((5 : Nat) : Int)).toNat : Nat) : Int) ((4 + (c % ((5 : Nat) : Int)).toNat : Nat) : Int) lb))] ++ (zs zf80 21 93)))) kr (fun zf80 => ?_)
  refine wQ (pL ?_)
  refine wI (d_move rfl) ?_
  refine wI (d_move rfl) ?_
  refine wI (n_eql (a := (newA a b c lb)) (b := (newA a b c lb)) rfl rfl (decide_eq_true rfl)) ?_
  refine wI (d_move rfl) ?_
  refine wG (d_move rfl) ?_
  refine wF ([(zf80 0), (zf80 1), (zf80 2), vT] ++ (zs zf80 4 8 ++ [(eN (newA a b c lb)), (zf80 13), (eN (newA a b c lb)), (zf80 15), (eN (newA 5 9 5 ([] : List (Int × Int)))), (zf80 17), (eN (newA ((6 + (a % ((3 : Nat) : Int)).toNat : Nat) : Int) ((8 + (b % ((5 : Nat) : Int)).toNat : Nat) : Int) ((4 + (c % ((5 : Nat) : Int)).toNat : Nat) : Int) lb)), (zf80 19), (eN (newA ((6 + (a % ((3 : Nat) : Int)).toNat : Nat) : Int) ((8 + (b % ((5 : Nat) : Int)).toNat : Nat) : Int) ((4 + (c % ((5 : Nat) : Int)).toNat : Nat) : Int) lb))] ++ (zs zf80 21 70 ++ [(eN (newA a b c lb)), (eN (newA a b c lb)), vT, vT, (eN (newA ((6 + (a % ((3 : Nat) : Int)).toNat : Nat) : Int) ((8 + (b % ((5 : Nat) : Int)).toNat : Nat) : Int) ((4 + (c % ((5 : Nat) : Int)).toNat : Nat) : Int) lb))] ++ (zs zf80 96 18)))) ?_
  refine wG (d_move rfl) ?_
  refine wG (n_eql (a := (newA ((6 + (a % ((3 : Nat) : Int)).toNat : Nat) : Int) ((8 + (b % ((5 : Nat) : Int)).toNat : Nat) : Int) ((4 + (c % ((5 : Nat) : Int)).toNat : Nat) : Int) lb)) (b := (newA ((6 + (a % ((3 : Nat) : Int)).toNat : Nat) : Int) ((8 + (b % ((5 : Nat) : Int)).toNat : Nat) : Int) ((4 + (c % ((5 : Nat) : Int)).toNat : Nat) : Int) lb)) rfl rfl (decide_eq_true rfl)) ?_
  refine wI (d_pick (b := true) (v := vT) rfl rfl) ?_
  refine wI (d_move rfl) ?_
  refine wG (d_move rfl) ?_
  refine wF ([(zf80 0), (zf80 1), (zf80 2), vT] ++ (zs zf80 4 8 ++ [(eN (newA a b c lb)), (zf80 13), (eN (newA a b c lb)), (zf80 15), (eN (newA 5 9 5 ([] : List (Int × Int)))), (zf80 17), (eN (newA ((6 + (a % ((3 : Nat) : Int)).toNat : Nat) : Int) ((8 + (b % ((5 : Nat) : Int)).toNat : Nat) : Int) ((4 + (c % ((5 : Nat) : Int)).toNat : Nat) : Int) lb)), (zf80 19), (eN (newA ((6 + (a % ((3 : Nat) : Int)).toNat : Nat) : Int) ((8 + (b % ((5 : Nat) : Int)).toNat : Nat) : Int) ((4 + (c % ((5 : Nat) : Int)).toNat : Nat) : Int) lb))] ++ (zs zf80 21 70 ++ [(eN (newA a b c lb)), (eN (newA a b c lb)), vT, vT, (eN (newA ((6 + (a % ((3 : Nat) : Int)).toNat : Nat) : Int) ((8 + (b % ((5 : Nat) : Int)).toNat : Nat) : Int) ((4 + (c % ((5 : Nat) : Int)).toNat : Nat) : Int) lb)), (eN (newA ((6 + (a % ((3 : Nat) : Int)).toNat : Nat) : Int) ((8 + (b % ((5 : Nat) : Int)).toNat : Nat) : Int) ((4 + (c % ((5 : Nat) : Int)).toNat : Nat) : Int) lb)), vT, vT, vT, (eN (newA 5 9 5 ([] : List (Int × Int))))] ++ (zs zf80 101 13)))) ?_
  refine wG (n_eql (a := (newA 5 9 5 ([] : List (Int × Int)))) (b := 0) rfl rfl (decide_eq_false (by rw [newA_no (by unfold fitsA; omega)]; decide))) ?_
  refine wG (d_move rfl) ?_
  refine wG (d_not rfl rfl) ?_
  refine wG (d_beql Try.underlying4 rfl rfl rfl) ?_
  refine wI (d_pick (b := true) (v := vT) rfl rfl) ?_
  refine wF ([(zf80 0), (zf80 1), (zf80 2), vT] ++ (zs zf80 4 8 ++ [(eN (newA a b c lb)), (zf80 13), (eN (newA a b c lb)), (zf80 15), (eN (newA 5 9 5 ([] : List (Int × Int)))), (zf80 17), (eN (newA ((6 + (a % ((3 : Nat) : Int)).toNat : Nat) : Int) ((8 + (b % ((5 : Nat) : Int)).toNat : Nat) : Int) ((4 + (c % ((5 : Nat) : Int)).toNat : Nat) : Int) lb)), (zf80 19), (eN (newA ((6 + (a % ((3 : Nat) : Int)).toNat : Nat) : Int) ((8 + (b % ((5 : Nat) : Int)).toNat : Nat) : Int) ((4 + (c % ((5 : Nat) : Int)).toNat : Nat) : Int) lb))] ++ (zs zf80 21 70 ++ [(eN (newA a b c lb)), (eN (newA a b c lb)), vT, vT, (eN (newA ((6 + (a % ((3 : Nat) : Int)).toNat : Nat) : Int) ((8 + (b % ((5 : Nat) : Int)).toNat : Nat) : Int) ((4 + (c % ((5 : Nat) : Int)).toNat : Nat) : Int) lb)), (eN (newA ((6 + (a % ((3 : Nat) : Int)).toNat : Nat) : Int) ((8 + (b % ((5 : Nat) : Int)).toNat : Nat) : Int) ((4 + (c % ((5 : Nat) : Int)).toNat : Nat) : Int) lb)), vT, vT, vT, (eN (newA 5 9 5 ([] : List (Int × Int)))), vF, vT, vF, vT, vT] ++ (zs zf80 106 8)))) ?_
  refine wI (d_move rfl) ?_
  refine wG (d_move rfl) ?_
  refine wG (d_not rfl rfl) ?_
  refine wG (d_move rfl) ?_
  refine wG (d_move rfl) ?_
  refine wF ([(zf80 0), (zf80 1), (zf80 2), vT] ++ (zs zf80 4 8 ++ [(eN (newA a b c lb)), (zf80 13), (eN (newA a b c lb)), (zf80 15), (eN (newA 5 9 5 ([] : List (Int × Int)))), (zf80 17), (eN (newA ((6 + (a % ((3 : Nat) : Int)).toNat : Nat) : Int) ((8 + (b % ((5 : Nat) : Int)).toNat : Nat) : Int) ((4 + (c % ((5 : Nat) : Int)).toNat : Nat) : Int) lb)), (zf80 19), (eN (newA ((6 + (a % ((3 : Nat) : Int)).toNat : Nat) : Int) ((8 + (b % ((5 : Nat) : Int)).toNat : Nat) : Int) ((4 + (c % ((5 : Nat) : Int)).toNat : Nat) : Int) lb))] ++ (zs zf80 21 70 ++ [(eN (newA a b c lb)), (eN (newA a b c lb)), vT, vT, (eN (newA ((6 + (a % ((3 : Nat) : Int)).toNat : Nat) : Int) ((8 + (b % ((5 : Nat) : Int)).toNat : Nat) : Int) ((4 + (c % ((5 : Nat) : Int)).toNat : Nat) : Int) lb)), (eN (newA ((6 + (a % ((3 : Nat) : Int)).toNat : Nat) : Int) ((8 + (b % ((5 : Nat) : Int)).toNat : Nat) : Int) ((4 + (c % ((5 : Nat) : Int)).toNat : Nat) : Int) lb)), vT, vT, vT, (eN (newA 5 9 5 ([] : List (Int × Int)))), vF, vT, vF, vT, vT, vT, vT, vF, vF, (eN (newA 5 9 5 ([] : List (Int × Int)))), (zf80 111), (zf80 112), (zf80 113)]))) ?_
  refine wG (n_eql (a := (newA 5 9 5 ([] : List (Int × Int)))) (b := 1) rfl rfl (decide_eq_true (newA_no (by unfold fitsA; omega)))) ?_
  refine wG (d_pick (b := false) (v := vT) rfl rfl) ?_
  refine wI (d_pick (b := true) (v := vT) rfl rfl) ?_
  refine wI (d_assign rfl) ?_
  refine wD (tN ?_)
  refine forget (fun zf81 => (zs zf81 0 8 ++ [vT] ++ (zs zf81 9 105))) kr (fun zf81 => ?_)
  refine wpIn_ret ?_
  refine leave0 (v := vT) (res1 Try.results3 rfl) ?_
  exact ⟨rfl, oW⟩
 refine wQ (pL ?_)
 refine wI (n_eql (a := ((wh % ((6 : Nat) : Int)).toNat)) (b := 2) rfl rfl rfl) ?_
 refine wF ([(zf18 0), u1, (eI wh), vT, (ptr gb 0), (zf18 5), (zf18 6), (zf18 7), (zf18 8), (eN 1), (ptr hb 0)] ++ (zs zf18 11 16 ++ [(Value.agg #[(eN 7), (eN 9), (eN 5)]), (eI wh), (eN ((wh % ((6 : Nat) : Int)).toNat)), (Value.bool (decide (((wh % ((6 : Nat) : Int)).toNat) = 0))), (Value.bool (decide (((wh % ((6 : Nat) : Int)).toNat) = 0))), (zf18 32), (zf18 33), (zf18 34), (Value.bool (decide (((wh % ((6 : Nat) : Int)).toNat) = 1))), (Value.bool (decide (((wh % ((6 : Nat) : Int)).toNat) = 1))), (zf18 37), (zf18 38), (zf18 39), (zf18 40), (Value.bool (decide (((wh % ((6 : Nat) : Int)).toNat) = 2)))] ++ (zs zf18 42 72))) ?_
 refine wI (d_assign rfl) ?_
 refine wD (tN ?_)
 refine forget (fun zf82 => ([(zf82 0), u1, (zf82 2), vT, (ptr gb 0), (zf82 5), (zf82 6), (zf82 7), (zf82 8), (eN 1), (ptr hb 0)] ++ (zs zf82 11 18 ++ [(eN ((wh % ((6 : Nat) : Int)).toNat))] ++ (zs zf82 30 10 ++ [(Value.bool (decide (((wh % ((6 : Nat) : Int)).toNat) = 2)))] ++ (zs zf82 41 73))))) kr (fun zf82 => ?_)
 refine cond_if rfl (fun q2 => ?_) (fun q2 => ?_)
 ·
  refine pL ?_
  refine wI (d_move rfl) ?_
  refine wI (n_add (a := 12) (b := 1) rfl rfl oo) ?_
  refine wI (d_fieldAddr (j := 1) Try.underlying23 rfl s_ti3 (by decide) rfl rfl) ?_
  refine wO (d_store s_ti3 rfl rfl rfl a24 (nb rfl) rfl) ?_
  rintro _ w83 ⟨a84, o85⟩
  replace h1 := h1.stepb o85 in1
  replace a13 := a13.step o85 (fun e => absurd e n_gb_hb)
  replace oW := oW.tailb o85 g_oW_hb
  refine wD ?_
  refine inb_n (tN ?_)
  refine wQ (pL ?_)
  refine wI (d_loadAg (vs := [(eI a), (eI b), (eI c)]) ⟨_, Try.underlying23, rfl⟩ s_ti23 rfl a13 rfl rfl) ?_
  refine wF ([(zf82 0), u1, (zf82 2), vT, (ptr gb 0), (zf82 5), (zf82 6), (zf82 7), (zf82 8), (eN 1), (ptr hb 0)] ++ (zs zf82 11 18 ++ [(eN ((wh % ((6 : Nat) : Int)).toNat))] ++ (zs zf82 30 10 ++ [(Value.bool (decide (((wh % ((6 : Nat) : Int)).toNat) = 2))), (zf82 41), (eN 1), (eN 13), (ptr hb 1)] ++ (zs zf82 45 16 ++ [(Value.agg #[(eI a), (eI b), (eI c)])] ++ (zs zf82 62 52))))) ?_
  refine wI (d_move rfl) ?_
  refine wO (d_call (xl := [.tmp 61, .tmp 62]) (al := [(Value.agg #[(eI a), (eI b), (eI c)]), u1]) Try.func13 kr rfl rfl rfl (nandNewA_ok a b c lb u1 _ (Ps.no h1) (by first | omega | simp))) ?_
  rintro _ w86 ⟨u88, rfl, o87⟩
  replace h1 := h1.step0 o87
  replace a13 := a13.step0 o87
  replace a84 := a84.step0 o87
  replace oW := oW.tail0 o87
  refine wI (d_move rfl) ?_
  refine wI (d_extract (v := u88) rfl rfl) ?_
  refine wI (d_extract (v := (eN (newA a b c lb))) rfl rfl) ?_
  refine wF ([(zf82 0), u1, (zf82 2), vT, (ptr gb 0), (zf82 5), (zf82 6), (zf82 7), (zf82 8), (eN 1), (ptr hb 0)] ++ (zs zf82 11 18 ++ [(eN ((wh % ((6 : Nat) : Int)).toNat))] ++ (zs zf82 30 10 ++ [(Value.bool (decide (((wh % ((6 : Nat) : Int)).toNat) = 2))), (zf82 41), (eN 1), (eN 13), (ptr hb 1)] ++ (zs zf82 45 15 ++ [(Value.tuple #[u88, (eN (newA a b c lb))]), (Value.agg #[(eI a), (eI b), (eI c)]), u1, (Value.tuple #[u88, (eN (newA a b c lb))]), u88, (eN (newA a b c lb))] ++ (zs zf82 66 48))))) ?_
  refine wI (d_assign rfl) ?_
  refine wI (d_assign rfl) ?_
  refine wD (tN ?_)
  refine forget (fun zf89 => ([(zf89 0), u1, (zf89 2), vT, (ptr gb 0)] ++ (zs zf89 5 5 ++ [(ptr hb 0), (zf89 11), (eN (newA a b c lb))] ++ (zs zf89 13 101)))) kr (fun zf89 => ?_)
  refine wQ (pL ?_)
  refine wI (d_loadAg (vs := [(eI a), (eI b), (eI c)]) ⟨_, Try.underlying23, rfl⟩ s_ti23 rfl a13 rfl rfl) ?_
  refine wI (d_move rfl) ?_
  refine wO (d_call (xl := [.tmp 67, .tmp 68]) (al := [(Value.agg #[(eI a), (eI b), (eI c)]), u1]) Try.func14 kr rfl rfl rfl (ref7NewA_ok a b c lb u1 _ (Ps.no h1) (by first | omega | simp))) ?_
  rintro _ w90 ⟨u92, rfl, o91⟩
  replace h1 := h1.step0 o91
  replace a13 := a13.step0 o91
  replace a84 := a84.step0 o91
  replace oW := oW.tail0 o91
  refine wI (d_move rfl) ?_
  refine wI (d_extract (v := u92) rfl rfl) ?_
  refine wF ([(zf89 0), u1, (zf89 2), vT, (ptr gb 0)] ++ (zs zf89 5 5 ++ [(ptr hb 0), (zf89 11), (eN (newA a b c lb))] ++ (zs zf89 13 53 ++ [(Value.tuple #[u92, (eN (newA a b c lb))]), (Value.agg #[(eI a), (eI b), (eI c)]), u1, (Value.tuple #[u92, (eN (newA a b c lb))]), u92] ++ (zs zf89 71 43)))) ?_
  refine wI (d_extract (v := (eN (newA a b c lb))) rfl rfl) ?_
  refine wI (d_assign rfl) ?_
  refine wI (d_assign rfl) ?_
  refine wD (tN (wQ (pL ?_)))
  refine wI (d_loadAg (vs := [(eN 7), (eN 13), (eN 5)]) ⟨_, Try.underlying23, rfl⟩ s_ti23 rfl a84 rfl rfl) ?_
  refine wO (d_call (xl := [.tmp 73, .const (.slice none 0 0)]) (al := [(Value.agg #[(eN 7), (eN 13), (eN 5)]), (Value.slice none 0 0)]) Try.func13 kr rfl rfl rfl (nandNewA_ok 7 13 5 ([] : List (Int × Int)) (Value.slice none 0 0) _ seq_nilA (by first | omega | simp))) ?_
  rintro _ w93 ⟨u95, rfl, o94⟩
  replace h1 := h1.step0 o94
  replace a13 := a13.step0 o94
  replace a84 := a84.step0 o94
  replace oW := oW.tail0 o94
  refine wF ([(zf89 0), u1, (zf89 2), vT, (ptr gb 0)] ++ (zs zf89 5 5 ++ [(ptr hb 0), (zf89 11), (eN (newA a b c lb)), u92, (eN (newA a b c lb))] ++ (zs zf89 15 51 ++ [(Value.tuple #[u92, (eN (newA a b c lb))]), (Value.agg #[(eI a), (eI b), (eI c)]), u1, (Value.tuple #[u92, (eN (newA a b c lb))]), u92, (eN (newA a b c lb)), (zf89 72), (Value.agg #[(eN 7), (eN 13), (eN 5)]), (Value.tuple #[u95, (eN (newA 7 13 5 ([] : List (Int × Int))))])] ++ (zs zf89 75 39)))) ?_
  refine wI (d_move rfl) ?_
  refine wI (d_extract (v := u95) rfl rfl) ?_
  refine wI (d_extract (v := (eN (newA 7 13 5 ([] : List (Int × Int))))) rfl rfl) ?_
  refine wI (d_assign rfl) ?_
  refine wI (d_assign rfl) ?_
  refine wF ([(zf89 0), u1, (zf89 2), vT, (ptr gb 0)] ++ (zs zf89 5 5 ++ [(ptr hb 0), (zf89 11), (eN (newA a b c lb)), u92, (eN (newA a b c lb)), u95, (eN (newA 7 13 5 ([] : List (Int × Int))))] ++ (zs zf89 17 49 ++ [(Value.tuple #[u92, (eN (newA a b c lb))]), (Value.agg #[(eI a), (eI b), (eI c)]), u1, (Value.tuple #[u92, (eN (newA a b c lb))]), u92, (eN (newA a b c lb)), (Value.tuple #[u95, (eN (newA 7 13 5 ([] : List (Int × Int))))]), (Value.agg #[(eN 7), (eN 13), (eN 5)]), (Value.tuple #[u95, (eN (newA 7 13 5 ([] : List (Int × Int))))]), u95, (eN (newA 7 13 5 ([] : List (Int × Int))))] ++ (zs zf89 77 37)))) ?_
  refine wD (tN ?_)
  refine forget (fun zf96 => ([(zf96 0), u1, (zf96 2), vT, (ptr gb 0)] ++ (zs zf96 5 7 ++ [(eN (newA a b c lb)), (zf96 13), (eN (newA a b c lb)), (zf96 15), (eN (newA 7 13 5 ([] : List (Int × Int))))] ++ (zs zf96 17 97)))) kr (fun zf96 => ?_)
  refine wQ (pL ?_)
  refine wI (d_loadAg (vs := [(eI a), (eI b), (eI c)]) ⟨_, Try.underlying23, rfl⟩ s_ti23 rfl a13 rfl rfl) ?_
  refine wO (d_call (xl := [.tmp 78]) (al := [(Value.agg #[(eI a), (eI b), (eI c)])]) Try.func15 kr rfl rfl rfl (law7Make_ok a b c _)) ?_
  rintro _ w97 ⟨rfl, o98⟩
  replace h1 := h1.step0 o98
  replace a13 := a13.step0 o98
  replace a84 := a84.step0 o98
  replace oW := oW.tail0 o98
  refine wI (d_move rfl) ?_
  refine wO (d_call (xl := [.tmp 79, .tmp 80]) (al := [(Value.agg #[(eN (6 + (a % ((3 : Nat) : Int)).toNat)), (eN (8 + (b % ((5 : Nat) : Int)).toNat)), (eN (4 + (c % ((5 : Nat) : Int)).toNat))]), u1]) Try.func13 kr rfl rfl rfl (nandNewA_ok ((6 + (a % ((3 : Nat) : Int)).toNat : Nat) : Int) ((8 + (b % ((5 : Nat) : Int)).toNat : Nat) : Int) ((4 + (c % ((5 : Nat) : Int)).toNat : Nat) : Int) lb u1 _ (Ps.no h1) (by first | omega | simp))) ?_
  rintro _ w99 ⟨u101, rfl, o100⟩
  replace h1 := h1.step0 o100
  replace a13 := a13.step0 o100
  replace a84 := a84.step0 o100
  replace oW := oW.tail0 o100
  refine wI (d_move rfl) ?_
  refine wF ([(zf96 0), u1, (zf96 2), vT, (ptr gb 0)] ++ (zs zf96 5 7 ++ [(eN (newA a b c lb)), (zf96 13), (eN (newA a b c lb)), (zf96 15), (eN (newA 7 13 5 ([] : List (Int × Int))))] ++ (zs zf96 17 60 ++ [(Value.tuple #[u101, (eN (newA ((6 + (a % ((3 : Nat) : Int)).toNat : Nat) : Int) ((8 + (b % ((5 : Nat) : Int)).toNat : Nat) : Int) ((4 + (c % ((5 : Nat) : Int)).toNat : Nat) : Int) lb))]), (Value.agg #[(eI a), (eI b), (eI c)]), (Value.agg #[(eN (6 + (a % ((3 : Nat) : Int)).toNat)), (eN (8 + (b % ((5 : Nat) : Int)).toNat)), (eN (4 + (c % ((5 : Nat) : Int)).toNat))]), u1, (Value.tuple #[u101, (eN (newA ((6 + (a % ((3 : Nat) : Int)).toNat : Nat) : Int) ((8 + (b % ((5 : Nat) : Int)).toNat : Nat) : Int) ((4 + (c % ((5 : Nat) : Int)).toNat : Nat) : Int) lb))])] ++ (zs zf96 82 32)))) ?_
  refine wI (d_extract (v := u101) rfl rfl) ?_
  refine wI (d_extract (v := (eN (newA ((6 + (a % ((3 : Nat) : Int)).toNat : Nat) : Int) ((8 + (b % ((5 : Nat) : Int)).toNat : Nat) : Int) ((4 + (c % ((5 : Nat) : Int)).toNat : Nat) : Int) lb))) rfl rfl) ?_
  refine wI (d_assign rfl) ?_
  refine wI (d_assign rfl) ?_
  refine wD (tN ?_)
  refine forget (fun zf102 => ([(zf102 0), u1, (zf102 2), vT, (ptr gb 0)] ++ (zs zf102 5 7 ++ [(eN (newA a b c lb)), (zf102 13), (eN (newA a b c lb)), (zf102 15), (eN (newA 7 13 5 ([] : List (Int × Int)))), (zf102 17), (eN (newA ((6 + (a % ((3 : Nat) : Int)).toNat : Nat) : Int) ((8 + (b % ((5 : Nat) : Int)).toNat : Nat) : Int) ((4 + (c % ((5 : Nat) : Int)).toNat : Nat) : Int) lb))] ++ (zs zf102 19 95)))) kr (fun zf102 => ?_)
  refine wQ (pL ?_)
  refine wI (d_loadAg (vs := [(eI a), (eI b), (eI c)]) ⟨_, Try.underlying23, rfl⟩ s_ti23 rfl a13 rfl rfl) ?_
  refine wO (d_call (xl := [.tmp 85]) (al := [(Value.agg #[(eI a), (eI b), (eI c)])]) Try.func15 kr rfl rfl rfl (law7Make_ok a b c _)) ?_
  rintro _ w103 ⟨rfl, o104⟩
  replace h1 := h1.step0 o104
  replace a13 := a13.step0 o104
  replace a84 := a84.step0 o104
  replace oW := oW.tail0 o104
  refine wI (d_move rfl) ?_
  refine wO (d_call (xl := [.tmp 86, .tmp 87]) (al := [(Value.agg #[(eN (6 + (a % ((3 : Nat) : Int)).toNat)), (eN (8 + (b % ((5 : Nat) : Int)).toNat)), (eN (4 + (c % ((5 : Nat) : Int)).toNat))]), u1]) Try.func14 kr rfl rfl rfl (ref7NewA_ok ((6 + (a % ((3 : Nat) : Int)).toNat : Nat) : Int) ((8 + (b % ((5 : Nat) : Int)).toNat : Nat) : Int) ((4 + (c % ((5 : Nat) : Int)).toNat : Nat) : Int) lb u1 _ (Ps.no h1) (by first | omega | simp))) ?_
  rintro _ w105 ⟨u107, rfl, o106⟩
  replace h1 := h1.step0 o106
  replace a13 := a13.step0 o106
  replace a84 := a84.step0 o106
  replace oW := oW.tail0 o106
  refine wI (d_move rfl) ?_
  refine wF ([(zf102 0), u1, (zf102 2), vT, (ptr gb 0)] ++ (zs zf102 5 7 ++ [(eN (newA a b c lb)), (zf102 13), (eN (newA a b c lb)), (zf102 15), (eN (newA 7 13 5 ([] : List (Int × Int)))), (zf102 17), (eN (newA ((6 + (a % ((3 : Nat) : Int)).toNat : Nat) : Int) ((8 + (b % ((5 : Nat) : Int)).toNat : Nat) : Int) ((4 + (c % ((5 : Nat) : Int)).toNat : Nat) : Int) lb))] ++ (zs zf102 19 65 ++ [(Value.tuple #[u107, (eN (newA ((6 + (a % ((3 : Nat) : Int)).toNat : Nat) : Int) ((8 + (b % ((5 : Nat) : Int)).toNat : Nat) : Int) ((4 + (c % ((5 : Nat) : Int)).toNat : Nat) : Int) lb))]), (Value.agg #[(eI a), (eI b), (eI c)]), (Value.agg #[(eN (6 + (a % ((3 : Nat) : Int)).toNat)), (eN (8 + (b % ((5 : Nat) : Int)).toNat)), (eN (4 + (c % ((5 : Nat) : Int)).toNat))]), u1, (Value.tuple #[u107, (eN (newA ((6 + (a % ((3 : Nat) : Int)).toNat : Nat) : Int) ((8 + (b % ((5 : Nat) : Int)).toNat : Nat) : Int) ((4 + (c % ((5 : Nat) : Int)).toNat : Nat) : Int) lb))])] ++ (zs zf102 89 25)))) ?_
  refine wI (d_extract (v := u107) rfl rfl) ?_
  refine wI (d_extract (v := (eN (newA ((6 + (a % ((3 : Nat) : Int)).toNat : Nat) : Int) ((8 + (b % ((5 : Nat) : Int)).toNat : Nat) : Int) ((4 + (c % ((5 : Nat) : Int)).toNat : Nat) : Int) lb))) rfl rfl) ?_
  refine wI (d_assign rfl) ?_
  refine wI (d_assign rfl) ?_
  refine wD (tN ?_)
  refine forget (fun zf108 => ([(zf108 0), (zf108 1), (zf108 2), vT] ++ (zs zf108 4 8 ++ [(eN (newA a b c lb)), (zf108 13), (eN (newA a b c lb)), (zf108 15), (eN (newA 7 13 5 ([] : List (Int × Int)))), (zf108 17), (eN (newA ((6 + (a % ((3 : Nat) : Int)).toNat : Nat) : Int) ((8 + (b % ((5 : Nat) : Int)).toNat : Nat) : Int) ((4 + (c % ((5 : Nat) : Int)).toNat : Nat) : Int) lb)), (zf108 19), (eN (newA ((6 + (a % ((3 : Nat) : Int)).toNat : Nat) : Int) ((8 + (b % ((5 : Nat) : Int)).toNat : Nat) : Int) ((4 + (c % ((5 : Nat) : Int)).toNat : Nat) : Int) lb))] ++ (zs zf108 21 93)))) kr (fun zf108 => ?_)
  refine wQ (pL ?_)
  refine wI (d_move rfl) ?_
  refine wI (d_move rfl) ?_
  refine wI (n_eql (a := (newA a b c lb)) (b := (newA a b c lb)) rfl rfl (decide_eq_true rfl)) ?_
  refine wI (d_move rfl) ?_
  refine wG (d_move rfl) ?_
  refine wF ([(zf108 0), (zf108 1), (zf108 2), vT] ++ (zs zf108 4 8 ++ [(eN (newA a b c lb)), (zf108 13), (eN (newA a b c lb)), (zf108 15), (eN (newA 7 13 5 ([] : List (Int × Int)))), (zf108 17), (eN (newA ((6 + (a % ((3 : Nat) : Int)).toNat : Nat) : Int) ((8 + (b % ((5 : Nat) : Int)).toNat : Nat) : Int) ((4 + (c % ((5 : Nat) : Int)).toNat : Nat) : Int) lb)), (zf108 19), (eN (newA ((6 + (a % ((3 : Nat) : Int)).toNat : Nat) : Int) ((8 + (b % ((5 : Nat) : Int)).toNat : Nat) : Int) ((4 + (c % ((5 : Nat) : Int)).toNat : Nat) : Int) lb))] ++ (zs zf108 21 70 ++ [(eN (newA a b c lb)), (eN (newA a b c lb)), vT, vT, (eN (newA ((6 + (a % ((3 : Nat) : Int)).toNat : Nat) : Int) ((8 + (b % ((5 : Nat) : Int)).toNat : Nat) : Int) ((4 + (c % ((5 : Nat) : Int)).toNat : Nat) : Int) lb))] ++ (zs zf108 96 18)))) ?_
  refine wG (d_move rfl) ?_
  refine wG (n_eql (a := (newA ((6 + (a % ((3 : Nat) : Int)).toNat : Nat) : Int) ((8 + (b % ((5 : Nat) : Int)).toNat : Nat) : Int) ((4 + (c % ((5 : Nat) : Int)).toNat : Nat) : Int) lb)) (b := (newA ((6 + (a % ((3 : Nat) : Int)).toNat : Nat) : Int) ((8 + (b % ((5 : Nat) : Int)).toNat : Nat) : Int) ((4 + (c % ((5 : Nat) : Int)).toNat : Nat) : Int) lb)) rfl rfl (decide_eq_true rfl)) ?_
  refine wI (d_pick (b := true) (v := vT) rfl rfl) ?_
  refine wI (d_move rfl) ?_
  refine wG (d_move rfl) ?_
  refine wF ([(zf108 0), (zf108 1), (zf108 2), vT] ++ (zs zf108 4 8 ++ [(eN (newA a b c lb)), (zf108 13), (eN (newA a b c lb)), (zf108 15), (eN (newA 7 13 5 ([] : List (Int × Int)))), (zf108 17), (eN (newA ((6 + (a % ((3 : Nat) : Int)).toNat : Nat) : Int) ((8 + (b % ((5 : Nat) : Int)).toNat : Nat) : Int) ((4 + (c % ((5 : Nat) : Int)).toNat : Nat) : Int) lb)), (zf108 19), (eN (newA ((6 + (a % ((3 : Nat) : Int)).toNat : Nat) : Int) ((8 + (b % ((5 : Nat) : Int)).toNat : Nat) : Int) ((4 + (c % ((5 : Nat) : Int)).toNat : Nat) : Int) lb))] ++ (zs zf108 21 70 ++ [(eN (newA a b c lb)), (eN (newA a b c lb)), vT, vT, (eN (newA ((6 + (a % ((3 : Nat) : Int)).toNat : Nat) : Int) ((8 + (b % ((5 : Nat) : Int)).toNat : Nat) : Int) ((4 + (c % ((5 : Nat) : Int)).toNat : Nat) : Int) lb)), (eN (newA ((6 + (a % ((3 : Nat) : Int)).toNat : Nat) : Int) ((8 + (b % ((5 : Nat) : Int)).toNat : Nat) : Int) ((4 + (c % ((5 : Nat) : Int)).toNat : Nat) : Int) lb)), vT, vT, vT, (eN (newA 7 13 5 ([] : List (Int × Int))))] ++ (zs zf108 101 13)))) ?_
  refine wG (n_eql (a := (newA 7 13 5 ([] : List (Int × Int)))) (b := 0) rfl rfl (decide_eq_false (by rw [newA_no (by unfold fitsA; omega)]; decide))) ?_
  refine wG (d_move rfl) ?_
  refine wG (d_not rfl rfl) ?_
  refine wG (d_beql Try.underlying4 rfl rfl rfl) ?_
  refine wI (d_pick (b := true) (v := vT) rfl rfl) ?_
  refine wF ([(zf108 0), (zf108 1), (zf108 2), vT] ++ (zs zf108 4 8 ++ [(eN (newA a b c lb)), (zf108 13), (eN (newA a b c lb)), (zf108 15), (eN (newA 7 13 5 ([] : List (Int × Int)))), (zf108 17), (eN (newA ((6 + (a % ((3 : Nat) : Int)).toNat : Nat) : Int) ((8 + (b % ((5 : Nat) : Int)).toNat : Nat) : Int) ((4 + (c % ((5 : Nat) : Int)).toNat : Nat) : Int) lb)), (zf108 19), (eN (newA ((6 + (a % ((3 : Nat) : Int)).toNat : Nat) : Int) ((8 + (b % ((5 : Nat) : Int)).toNat : Nat) : Int) ((4 + (c % ((5 : Nat) : Int)).toNat : Nat) : Int) lb))] ++ (zs zf108 21 70 ++ [(eN (newA a b c lb)), (eN (newA a b c lb)), vT, vT, (eN (newA ((6 + (a % ((3 : Nat) : Int)).toNat : Nat) : Int) ((8 + (b % ((5 : Nat) : Int)).toNat : Nat) : Int) ((4 + (c % ((5 : Nat) : Int)).toNat : Nat) : Int) lb)), (eN (newA ((6 + (a % ((3 : Nat) : Int)).toNat : Nat) : Int) ((8 + (b % ((5 : Nat) : Int)).toNat : Nat) : Int) ((4 + (c % ((5 : Nat) : Int)).toNat : Nat) : Int) lb)), vT, vT, vT, (eN (newA 7 13 5 ([] : List (Int × Int)))), vF, vT, vF, vT, vT] ++ (zs zf108 106 8)))) ?_
  refine wI (d_move rfl) ?_
  refine wG (d_move rfl) ?_
  refine wG (d_not rfl rfl) ?_
  refine wG (d_move rfl) ?_
  refine wG (d_move rfl) ?_
  refine wF ([(zf108 0), (zf108 1), (zf108 2), vT] ++ (zs zf108 4 8 ++ [(eN (newA a b c lb)), (zf108 13), (eN (newA a b c lb)), (zf108 15), (eN (newA 7 13 5 ([] : List (Int × Int)))), (zf108 17), (eN (newA ((6 + (a % ((3 : Nat) : Int)).toNat : Nat) : Int) ((8 + (b % ((5 : Nat) : Int)).toNat : Nat) : Int) ((4 + (c % ((5 : Nat) : Int)).toNat : Nat) : Int) lb)), (zf108 19), (eN (newA ((6 + (a % ((3 : Nat) : Int)).toNat : Nat) : Int) ((8 + (b % ((5 : Nat) : Int)).toNat : Nat) : Int) ((4 + (c % ((5 : Nat) : Int)).toNat : Nat) : Int) lb))] ++ (zs zf108 21 70 ++ [(eN (newA a b c lb)), (eN (newA a b c lb)), vT, vT, (eN (newA ((6 + (a % ((3 : Nat) : Int)).toNat : Nat) : Int) ((8 + (b % ((5 : Nat) : Int)).toNat : Nat) : Int) ((4 + (c % ((5 : Nat) : Int)).toNat : Nat) : Int) lb)), (eN (newA ((6 + (a % ((3 : Nat) : Int)).toNat : Nat) : Int) ((8 + (b % ((5 : Nat) : Int)).toNat : Nat) : Int) ((4 + (c % ((5 : Nat) : Int)).toNat : Nat) : Int) lb)), vT, vT, vT, (eN (newA 7 13 5 ([] : List (Int × Int)))), vF, vT, vF, vT, vT, vT, vT, vF, vF, (eN (newA 7 13 5 ([] : List (Int × Int)))), (zf108 111), (zf108 112), (zf108 113)]))) ?_
  refine wG (n_eql (a := (newA 7 13 5 ([] : List (Int × Int)))) (b := 1) rfl rfl (decide_eq_true (newA_no (by unfold fitsA; omega)))) ?_
  refine wG (d_pick (b := false) (v := vT) rfl rfl) ?_
  refine wI (d_pick (b := true) (v := vT) rfl rfl) ?_
  refine wI (d_assign rfl) ?_
  refine wD (tN ?_)
  refine forget (fun zf109 => (zs zf109 0 8 ++ [vT] ++ (zs zf109 9 105))) kr (fun zf109 => ?_)
  refine wpIn_ret ?_
  refine leave0 (v := vT) (res1 Try.results3 rfl) ?_
  exact ⟨rfl, oW⟩
 refine wQ (pL ?_)
 refine wI (n_eql (a := ((wh % ((6 : Nat) : Int)).toNat)) (b := 3) rfl rfl rfl) ?_
 refine wI (d_assign rfl) ?_
 refine wD (tN ?_)
 refine cond_if rfl (fun q3 => ?_) (fun q3 => ?_)
 ·
  refine pL ?_
  refine wI (d_move rfl) ?_
  refine wI (n_sub (a := 8) (b := 1) rfl rfl oo oo) ?_
  refine wI (d_fieldAddr (j := 1) Try.underlying23 rfl s_ti3 (by decide) rfl rfl) ?_
  refine wF ([(zf82 0), u1, (zf82 2), vT, (ptr gb 0), (zf82 5), (zf82 6), (zf82 7), (zf82 8), (eN 1), (ptr hb 0)] ++ (zs zf82 11 18 ++ [(eN ((wh % ((6 : Nat) : Int)).toNat))] ++ (zs zf82 30 10 ++ [(Value.bool (decide (((wh % ((6 : Nat) : Int)).toNat) = 2))), (zf82 41), (zf82 42), (zf82 43), (zf82 44), (Value.bool (decide (((wh % ((6 : Nat) : Int)).toNat) = 3))), (Value.bool (decide (((wh % ((6 : Nat) : Int)).toNat) = 3))), (eN 1), (eN 7), (ptr hb 1)] ++ (zs zf82 50 64)))) ?_
  refine wO (d_store s_ti3 rfl rfl rfl a24 (nb rfl) rfl) ?_
  rintro _ w110 ⟨a111, o112⟩
  replace h1 := h1.stepb o112 in1
  replace a13 := a13.step o112 (fun e => absurd e n_gb_hb)
  replace oW := oW.tailb o112 g_oW_hb
  refine wD ?_
  refine inb_n (tN ?_)
  refine forget (fun zf113 => ([(zf113 0), u1, (zf113 2), vT, (ptr gb 0)] ++ (zs zf113 5 5 ++ [(ptr hb 0)] ++ (zs zf113 11 103)))) kr (fun zf113 => ?_)
  refine wQ (pL ?_)
  refine wI (d_loadAg (vs := [(eI a), (eI b), (eI c)]) ⟨_, Try.underlying23, rfl⟩ s_ti23 rfl a13 rfl rfl) ?_
  refine wI (d_move rfl) ?_
  refine wO (d_call (xl := [.tmp 61, .tmp 62]) (al := [(Value.agg #[(eI a), (eI b), (eI c)]), u1]) Try.func13 kr rfl rfl rfl (nandNewA_ok a b c lb u1 _ (Ps.no h1) (by first | omega | simp))) ?_
  rintro _ w114 ⟨u116, rfl, o115⟩
  replace h1 := h1.step0 o115
  replace a13 := a13.step0 o115
  replace a111 := a111.step0 o115
  replace oW := oW.tail0 o115
  refine wI (d_move rfl) ?_
  refine wI (d_extract (v := u116) rfl rfl) ?_
  refine wF ([(zf113 0), u1, (zf113 2), vT, (ptr gb 0)] ++ (zs zf113 5 5 ++ [(ptr hb 0)] ++ (zs zf113 11 49 ++ [(Value.tuple #[u116, (eN (newA a b c lb))]), (Value.agg #[(eI a), (eI b), (eI c)]), u1, (Value.tuple #[u116, (eN (newA a b c lb))]), u116] ++ (zs zf113 65 49)))) ?_
  refine wI (d_extract (v := (eN (newA a b c lb))) rfl rfl) ?_
  refine wI (d_assign rfl) ?_
  refine wI (d_assign rfl) ?_
  refine wD (tN (wQ (pL ?_)))
  refine wI (d_loadAg (vs := [(eI a), (eI b), (eI c)]) ⟨_, Try.underlying23, rfl⟩ s_ti23 rfl a13 rfl rfl) ?_
  refine wI (d_move rfl) ?_
  refine wF ([(zf113 0), u1, (zf113 2), vT, (ptr gb 0)] ++ (zs zf113 5 5 ++ [(ptr hb 0), u116, (eN (newA a b c lb))] ++ (zs zf113 13 47 ++ [(Value.tuple #[u116, (eN (newA a b c lb))]), (Value.agg #[(eI a), (eI b), (eI c)]), u1, (Value.tuple #[u116, (eN (newA a b c lb))]), u116, (eN (newA a b c lb)), (zf113 66), (Value.agg #[(eI a), (eI b), (eI c)]), u1] ++ (zs zf113 69 45)))) ?_
  refine wO (d_call (xl := [.tmp 67, .tmp 68]) (al := [(Value.agg #[(eI a), (eI b), (eI c)]), u1]) Try.func14 kr rfl rfl rfl (ref7NewA_ok a b c lb u1 _ (Ps.no h1) (by first | omega | simp))) ?_
  rintro _ w117 ⟨u119, rfl, o118⟩
  replace h1 := h1.step0 o118
  replace a13 := a13.step0 o118
  replace a111 := a111.step0 o118
  replace oW := oW.tail0 o118
  refine wI (d_move rfl) ?_
  refine wI (d_extract (v := u119) rfl rfl) ?_
  refine wI (d_extract (v := (eN (newA a b c lb))) rfl rfl) ?_
  refine wI (d_assign rfl) ?_
  refine wF ([(zf113 0), u1, (zf113 2), vT, (ptr gb 0)] ++ (zs zf113 5 5 ++ [(ptr hb 0), u116, (eN (newA a b c lb)), u119] ++ (zs zf113 14 46 ++ [(Value.tuple #[u116, (eN (newA a b c lb))]), (Value.agg #[(eI a), (eI b), (eI c)]), u1, (Value.tuple #[u116, (eN (newA a b c lb))]), u116, (eN (newA a b c lb)), (Value.tuple #[u119, (eN (newA a b c lb))]), (Value.agg #[(eI a), (eI b), (eI c)]), u1, (Value.tuple #[u119, (eN (newA a b c lb))]), u119, (eN (newA a b c lb))] ++ (zs zf113 72 42)))) ?_
  refine wI (d_assign rfl) ?_
  refine wD (tN ?_)
  refine forget (fun zf120 => ([(zf120 0), u1, (zf120 2), vT, (ptr gb 0)] ++ (zs zf120 5 5 ++ [(ptr hb 0), (zf120 11), (eN (newA a b c lb)), (zf120 13), (eN (newA a b c lb))] ++ (zs zf120 15 99)))) kr (fun zf120 => ?_)
  refine wQ (pL ?_)
  refine wI (d_loadAg (vs := [(eN 7), (eN 7), (eN 5)]) ⟨_, Try.underlying23, rfl⟩ s_ti23 rfl a111 rfl rfl) ?_
  refine wO (d_call (xl := [.tmp 73, .const (.slice none 0 0)]) (al := [(Value.agg #[(eN 7), (eN 7), (eN 5)]), (Value.slice none 0 0)]) Try.func13 kr rfl rfl rfl (nandNewA_ok 7 7 5 ([] : List (Int × Int)) (Value.slice none 0 0) _ seq_nilA (by first | omega | simp))) ?_
  rintro _ w121 ⟨u123, rfl, o122⟩
  replace h1 := h1.step0 o122
  replace a13 := a13.step0 o122
  replace a111 := a111.step0 o122
  replace oW := oW.tail0 o122
  refine wI (d_move rfl) ?_
  refine wI (d_extract (v := u123) rfl rfl) ?_
  refine wI (d_extract (v := (eN (newA 7 7 5 ([] : List (Int × Int))))) rfl rfl) ?_
  refine wF ([(zf120 0), u1, (zf120 2), vT, (ptr gb 0)] ++ (zs zf120 5 5 ++ [(ptr hb 0), (zf120 11), (eN (newA a b c lb)), (zf120 13), (eN (newA a b c lb))] ++ (zs zf120 15 57 ++ [(Value.tuple #[u123, (eN (newA 7 7 5 ([] : List (Int × Int))))]), (Value.agg #[(eN 7), (eN 7), (eN 5)]), (Value.tuple #[u123, (eN (newA 7 7 5 ([] : List (Int × Int))))]), u123, (eN (newA 7 7 5 ([] : List (Int × Int))))] ++ (zs zf120 77 37)))) ?_
  refine wI (d_assign rfl) ?_
  refine wI (d_assign rfl) ?_
  refine wD (tN (wQ (pL ?_)))
  refine wI (d_loadAg (vs := [(eI a), (eI b), (eI c)]) ⟨_, Try.underlying23, rfl⟩ s_ti23 rfl a13 rfl rfl) ?_
  refine wO (d_call (xl := [.tmp 78]) (al := [(Value.agg #[(eI a), (eI b), (eI c)])]) Try.func15 kr rfl rfl rfl (law7Make_ok a b c _)) ?_
  rintro _ w124 ⟨rfl, o125⟩
  replace h1 := h1.step0 o125
  replace a13 := a13.step0 o125
  replace a111 := a111.step0 o125
  replace oW := oW.tail0 o125
  refine wI (d_move rfl) ?_
  refine wF ([(zf120 0), u1, (zf120 2), vT, (ptr gb 0)] ++ (zs zf120 5 5 ++ [(ptr hb 0), (zf120 11), (eN (newA a b c lb)), (zf120 13), (eN (newA a b c lb)), u123, (eN (newA 7 7 5 ([] : List (Int × Int))))] ++ (zs zf120 17 55 ++ [(Value.tuple #[u123, (eN (newA 7 7 5 ([] : List (Int × Int))))]), (Value.agg #[(eN 7), (eN 7), (eN 5)]), (Value.tuple #[u123, (eN (newA 7 7 5 ([] : List (Int × Int))))]), u123, (eN (newA 7 7 5 ([] : List (Int × Int)))), (zf120 77), (Value.agg #[(eI a), (eI b), (eI c)]), (Value.agg #[(eN (6 + (a % ((3 : Nat) : Int)).toNat)), (eN (8 + (b % ((5 : Nat) : Int)).toNat)), (eN (4 + (c % ((5 : Nat) : Int)).toNat))]), u1] ++ (zs zf120 81 33)))) ?_
  refine wO (d_call (xl := [.tmp 79, .tmp 80]) (al := [(Value.agg #[(eN (6 + (a % ((3 : Nat) : Int)).toNat)), (eN (8 + (b % ((5 : Nat) : Int)).toNat)), (eN (4 + (c % ((5 : Nat) : Int)).toNat))]), u1]) Try.func13 kr rfl rfl rfl (nandNewA_ok ((6 + (a % ((3 : Nat) : Int)).toNat : Nat) : Int) ((8 + (b % ((5 : Nat) : Int)).toNat : Nat) : Int) ((4 + (c % ((5 : Nat) : Int)).toNat : Nat) : Int) lb u1 _ (Ps.no h1) (by first | omega | simp))) ?_
  rintro _ w126 ⟨u128, rfl, o127⟩
  replace h1 := h1.step0 o127
  replace a13 := a13.step0 o127
  replace a111 := a111.step0 o127
  replace oW := oW.tail0 o127
  refine wI (d_move rfl) ?_
  refine wI (d_extract (v := u128) rfl rfl) ?_
  refine wI (d_extract (v := (eN (newA ((6 + (a % ((3 : Nat) : Int)).toNat : Nat) : Int) ((8 + (b % ((5 : Nat) : Int)).toNat : Nat) : Int) ((4 + (c % ((5 : Nat) : Int)).toNat : Nat) : Int) lb))) rfl rfl) ?_
  refine wI (d_assign rfl) ?_
  refine wF ([(zf120 0), u1, (zf120 2), vT, (ptr gb 0)] ++ (zs zf120 5 5 ++ [(ptr hb 0), (zf120 11), (eN (newA a b c lb)), (zf120 13), (eN (newA a b c lb)), u123, (eN (newA 7 7 5 ([] : List (Int × Int)))), u128] ++ (zs zf120 18 54 ++ [(Value.tuple #[u123, (eN (newA 7 7 5 ([] : List (Int × Int))))]), (Value.agg #[(eN 7), (eN 7), (eN 5)]), (Value.tuple #[u123, (eN (newA 7 7 5 ([] : List (Int × Int))))]), u123, (eN (newA 7 7 5 ([] : List (Int × Int)))), (Value.tuple #[u128, (eN (newA ((6 + (a % ((3 : Nat) : Int)).toNat : Nat) : Int) ((8 + (b % ((5 : Nat) : Int)).toNat : Nat) : Int) ((4 + (c % ((5 : Nat) : Int)).toNat : Nat) : Int) lb))]), (Value.agg #[(eI a), (eI b), (eI c)]), (Value.agg #[(eN (6 + (a % ((3 : Nat) : Int)).toNat)), (eN (8 + (b % ((5 : Nat) : Int)).toNat)), (eN (4 + (c % ((5 : Nat) : Int)).toNat))]), u1, (Value.tuple #[u128, (eN (newA ((6 + (a % ((3 : Nat) : Int)).toNat : Nat) : Int) ((8 + (b % ((5 : Nat) : Int)).toNat : Nat) : Int) ((4 + (c % ((5 : Nat) : Int)).toNat : Nat) : Int) lb))]), u128, (eN (newA ((6 + (a % ((3 : Nat) : Int)).toNat : Nat) : Int) ((8 + (b % ((5 : Nat) : Int)).toNat : Nat) : Int) ((4 + (c % ((5 : Nat) : Int)).toNat : Nat) : Int) lb))] ++ (zs zf120 84 30)))) ?_
  refine wI (d_assign rfl) ?_
  refine wD (tN ?_)
  refine forget (fun zf129 => ([(zf129 0), u1, (zf129 2), vT, (ptr gb 0)] ++ (zs zf129 5 7 ++ [(eN (newA a b c lb)), (zf129 13), (eN (newA a b c lb)), (zf129 15), (eN (newA 7 7 5 ([] : List (Int × Int)))), (zf129 17), (eN (newA ((6 + (a % ((3 : Nat) : Int)).toNat : Nat) : Int) ((8 + (b % ((5 : Nat) : Int)).toNat : Nat) : Int) ((4 + (c % ((5 : Nat) : Int)).toNat : Nat) : Int) lb))] ++ (zs zf129 19 95)))) kr (fun zf129 => ?_)
  refine wQ (pL ?_)
  refine wI (d_loadAg (vs := [(eI a), (eI b), (eI c)]) ⟨_, Try.underlying23, rfl⟩ s_ti23 rfl a13 rfl rfl) ?_
  refine wO (d_call (xl := [.tmp 85]) (al := [(Value.agg #[(eI a), (eI b), (eI c)])]) Try.func15 kr rfl rfl rfl (law7Make_ok a b c _)) ?_
  rintro _ w130 ⟨rfl, o131⟩
  replace h1 := h1.step0 o131
  replace a13 := a13.step0 o131
  replace a111 := a111.step0 o131
  replace oW := oW.tail0 o131
  refine wI (d_move rfl) ?_
  refine wO (d_call (xl := [.tmp 86, .tmp 87]) (al := [(Value.agg #[(eN (6 + (a % ((3 : Nat) : Int)).toNat)), (eN (8 + (b % ((5 : Nat) : Int)).toNat)), (eN (4 + (c % ((5 : Nat) : Int)).toNat))]), u1]) Try.func14 kr rfl rfl rfl (ref7NewA_ok ((6 + (a % ((3 : Nat) : Int)).toNat : Nat) : Int) ((8 + (b % ((5 : Nat) : Int)).toNat : Nat) : Int) ((4 + (c % ((5 : Nat) : Int)).toNat : Nat) : Int) lb u1 _ (Ps.no h1) (by first | omega | simp))) ?_
  rintro _ w132 ⟨u134, rfl, o133⟩
  replace h1 := h1.step0 o133
  replace a13 := a13.step0 o133
  replace a111 := a111.step0 o133
  replace oW := oW.tail0 o133
  refine wI (d_move rfl) ?_
  refine wF ([(zf129 0), u1, (zf129 2), vT, (ptr gb 0)] ++ (zs zf129 5 7 ++ [(eN (newA a b c lb)), (zf129 13), (eN (newA a b c lb)), (zf129 15), (eN (newA 7 7 5 ([] : List (Int × Int)))), (zf129 17), (eN (newA ((6 + (a % ((3 : Nat) : Int)).toNat : Nat) : Int) ((8 + (b % ((5 : Nat) : Int)).toNat : Nat) : Int) ((4 + (c % ((5 : Nat) : Int)).toNat : Nat) : Int) lb))] ++ (zs zf129 19 65 ++ [(Value.tuple #[u134, (eN (newA ((6 + (a % ((3 : Nat) : Int)).toNat : Nat) : Int) ((8 + (b % ((5 : Nat) : Int)).toNat : Nat) : Int) ((4 + (c % ((5 : Nat) : Int)).toNat : Nat) : Int) lb))]), (Value.agg #[(eI a), (eI b), (eI c)]), (Value.agg #[(eN (6 + (a % ((3 : Nat) : Int)).toNat)), (eN (8 + (b % ((5 : Nat) : Int)).toNat)), (eN (4 + (c % ((5 : Nat) : Int)).toNat))]), u1, (Value.tuple #[u134, (eN (newA ((6 + (a % ((3 : Nat) : Int)).toNat : Nat) : Int) ((8 + (b % ((5 : Nat) : Int)).toNat : Nat) : Int) ((4 + (c % ((5 : Nat) : Int)).toNat : Nat) : Int) lb))])] ++ (zs zf129 89 25)))) ?_
  refine wI (d_extract (v := u134) rfl rfl) ?_
  refine wI (d_extract (v := (eN (newA ((6 + (a % ((3 : Nat) : Int)).toNat : Nat) : Int) ((8 + (b % ((5 : Nat) : Int)).toNat : Nat) : Int) ((4 + (c % ((5 : Nat) : Int)).toNat : Nat) : Int) lb))) rfl rfl) ?_
  refine wI (d_assign rfl) ?_
  refine wI (d_assign rfl) ?_
  refine wD (tN ?_)
  refine forget (fun zf135 => ([(zf135 0), (zf135 1), (zf135 2), vT] ++ (zs zf135 4 8 ++ [(eN (newA a b c lb)), (zf135 13), (eN (newA a b c lb)), (zf135 15), (eN (newA 7 7 5 ([] : List (Int × Int)))), (zf135 17), (eN (newA ((6 + (a % ((3 : Nat) : Int)).toNat : Nat) : Int) ((8 + (b % ((5 : Nat) : Int)).toNat : Nat) : Int) ((4 + (c % ((5 : Nat) : Int)).toNat : Nat) : Int) lb)), (zf135 19), (eN (newA ((6 + (a % ((3 : Nat) : Int)).toNat : Nat) : Int) ((8 + (b % ((5 : Nat) : Int)).toNat : Nat) : Int) ((4 + (c % ((5 : Nat) : Int)).toNat : Nat) : Int) lb))] ++ (zs zf135 21 93)))) kr (fun zf135 => ?_)
  refine wQ (pL ?_)
  refine wI (d_move rfl) ?_
  refine wI (d_move rfl) ?_
  refine wI (n_eql (a := (newA a b c lb)) (b := (newA a b c lb)) rfl rfl (decide_eq_true rfl)) ?_
  refine wI (d_move rfl) ?_
  refine wG (d_move rfl) ?_
  refine wF ([(zf135 0), (zf135 1), (zf135 2), vT] ++ (zs zf135 4 8 ++ [(eN (newA a b c lb)), (zf135 13), (eN (newA a b c lb)), (zf135 15), (eN (newA 7 7 5 ([] : List (Int × Int)))), (zf135 17), (eN (newA ((6 + (a % ((3 : Nat) : Int)).toNat : Nat) : Int) ((8 + (b % ((5 : Nat) : Int)).toNat : Nat) : Int) ((4 + (c % ((5 : Nat) : Int)).toNat : Nat) : Int) lb)), (zf135 19), (eN (newA ((6 + (a % ((3 : Nat) : Int)).toNat : Nat) : Int) ((8 + (b % ((5 : Nat) : Int)).toNat : Nat) : Int) ((4 + (c % ((5 : Nat) : Int)).toNat : Nat) : Int) lb))] ++ (zs zf135 21 70 ++ [(eN (newA a b c lb)), (eN (newA a b c lb)), vT, vT, (eN (newA ((6 + (a % ((3 : Nat) : Int)).toNat : Nat) : Int) ((8 + (b % ((5 : Nat) : Int)).toNat : Nat) : Int) ((4 + (c % ((5 : Nat) : Int)).toNat : Nat) : Int) lb))] ++ (zs zf135 96 18)))) ?_
  refine wG (d_move rfl) ?_
  refine wG (n_eql (a := (newA ((6 + (a % ((3 : Nat) : Int)).toNat : Nat) : Int) ((8 + (b % ((5 : Nat) : Int)).toNat : Nat) : Int) ((4 + (c % ((5 : Nat) : Int)).toNat : Nat) : Int) lb)) (b := (newA ((6 + (a % ((3 : Nat) : Int)).toNat : Nat) : Int) ((8 + (b % ((5 : Nat) : Int)).toNat : Nat) : Int) ((4 + (c % ((5 : Nat) : Int)).toNat : Nat) : Int) lb)) rfl rfl (decide_eq_true rfl)) ?_
  refine wI (d_pick (b := true) (v := vT) rfl rfl) ?_
  refine wI (d_move rfl) ?_
  refine wG (d_move rfl) ?_
  refine wF ([(zf135 0), (zf135 1), (zf135 2), vT] ++ (zs zf135 4 8 ++ [(eN (newA a b c lb)), (zf135 13), (eN (newA a b c lb)), (zf135 15), (eN (newA 7 7 5 ([] : List (Int × Int)))), (zf135 17), (eN (newA ((6 + (a % ((3 : Nat) : Int)).toNat : Nat) : Int) ((8 + (b % ((5 : Nat) : Int)).toNat : Nat) : Int) ((4 + (c % ((5 : Nat) : Int)).toNat : Nat) : Int) lb)), (zf135 19), (eN (newA ((6 + (a % ((3 : Nat) : Int)).toNat : Nat) : Int) ((8 + (b % ((5 : Nat) : Int)).toNat : Nat) : Int) ((4 + (c % ((5 : Nat) : Int)).toNat : Nat) : Int) lb))] ++ (zs zf135 21 70 ++ [(eN (newA a b c lb)), (eN (newA a b c lb)), vT, vT, (eN (newA ((6 + (a % ((3 : Nat) : Int)).toNat : Nat) : Int) ((8 + (b % ((5 : Nat) : Int)).toNat : Nat) : Int) ((4 + (c % ((5 : Nat) : Int)).toNat : Nat) : Int) lb)), (eN (newA ((6 + (a % ((3 : Nat) : Int)).toNat : Nat) : Int) ((8 + (b % ((5 : Nat) : Int)).toNat : Nat) : Int) ((4 + (c % ((5 : Nat) : Int)).toNat : Nat) : Int) lb)), vT, vT, vT, (eN (newA 7 7 5 ([] : List (Int × Int))))] ++ (zs zf135 101 13)))) ?_
  refine wG (n_eql (a := (newA 7 7 5 ([] : List (Int × Int)))) (b := 0) rfl rfl (decide_eq_false (by rw [newA_no (by unfold fitsA; omega)]; decide))) ?_
  refine wG (d_move rfl) ?_
  refine wG (d_not rfl rfl) ?_
  refine wG (d_beql Try.underlying4 rfl rfl rfl) ?_
  refine wI (d_pick (b := true) (v := vT) rfl rfl) ?_
  refine wF ([(zf135 0), (zf135 1), (zf135 2), vT] ++ (zs zf135 4 8 ++ [(eN (newA a b c lb)), (zf135 13), (eN (newA a b c lb)), (zf135 15), (eN (newA 7 7 5 ([] : List (Int × Int)))), (zf135 17), (eN (newA ((6 + (a % ((3 : Nat) : Int)).toNat : Nat) : Int) ((8 + (b % ((5 : Nat) : Int)).toNat : Nat) : Int) ((4 + (c % ((5 : Nat) : Int)).toNat : Nat) : Int) lb)), (zf135 19), (eN (newA ((6 + (a % ((3 : Nat) : Int)).toNat : Nat) : Int) ((8 + (b % ((5 : Nat) : Int)).toNat : Nat) : Int) ((4 + (c % ((5 : Nat) : Int)).toNat : Nat) : Int) lb))] ++ (zs zf135 21 70 ++ [(eN (newA a b c lb)), (eN (newA a b c lb)), vT, vT, (eN (newA ((6 + (a % ((3 : Nat) : Int)).toNat : Nat) : Int) ((8 + (b % ((5 : Nat) : Int)).toNat : Nat) : Int) ((4 + (c % ((5 : Nat) : Int)).toNat : Nat) : Int) lb)), (eN (newA ((6 + (a % ((3 : Nat) : Int)).toNat : Nat) : Int) ((8 + (b % ((5 : Nat) : Int)).toNat : Nat) : Int) ((4 + (c % ((5 : Nat) : Int)).toNat : Nat) : Int) lb)), vT, vT, vT, (eN (newA 7 7 5 ([] : List (Int × Int)))), vF, vT, vF, vT, vT] ++ (zs zf135 106 8)))) ?_
  refine wI (d_move rfl) ?_
  refine wG (d_move rfl) ?_
  refine wG (d_not rfl rfl) ?_
  refine wG (d_move rfl) ?_
  refine wG (d_move rfl) ?_
  refine wF ([(zf135 0), (zf135 1), (zf135 2), vT] ++ (zs zf135 4 8 ++ [(eN (newA a b c lb)), (zf135 13), (eN (newA a b c lb)), (zf135 15), (eN (newA 7 7 5 ([] : List (Int × Int)))), (zf135 17), (eN (newA ((6 + (a % ((3 : Nat) : Int)).toNat : Nat) : Int) ((8 + (b % ((5 : Nat) : Int)).toNat : Nat) : Int) ((4 + (c % ((5 : Nat) : Int)).toNat : Nat) : Int) lb)), (zf135 19), (eN (newA ((6 + (a % ((3 : Nat) : Int)).toNat : Nat) : Int) ((8 + (b % ((5 : Nat) : Int)).toNat : Nat) : Int) ((4 + (c % ((5 : Nat) : Int)).toNat : Nat) : Int) lb))] ++ (zs zf135 21 70 ++ [(eN (newA a b c lb)), (eN (newA a b c lb)), vT, vT, (eN (newA ((6 + (a % ((3 : Nat) : Int)).toNat : Nat) : Int) ((8 + (b % ((5 : Nat) : Int)).toNat : Nat) : Int) ((4 + (c % ((5 : Nat) : Int)).toNat : Nat) : Int) lb)), (eN (newA ((6 + (a % ((3 : Nat) : Int)).toNat : Nat) : Int) ((8 + (b % ((5 : Nat) : Int)).toNat : Nat) : Int) ((4 + (c % ((5 : Nat) : Int)).toNat : Nat) : Int) lb)), vT, vT, vT, (eN (newA 7 7 5 ([] : List (Int × Int)))), vF, vT, vF, vT, vT, vT, vT, vF, vF, (eN (newA 7 7 5 ([] : List (Int × Int)))), (zf135 111), (zf135 112), (zf135 113)]))) ?_
  refine wG (n_eql (a := (newA 7 7 5 ([] : List (Int × Int)))) (b := 1) rfl rfl (decide_eq_true (newA_no (by unfold fitsA; omega)))) ?_
  refine wG (d_pick (b := false) (v := vT) rfl rfl) ?_
  refine wI (d_pick (b := true) (v := vT) rfl rfl) ?_
  refine wI (d_assign rfl) ?_
  refine wD (tN ?_)
  refine forget (fun zf136 => (zs zf136 0 8 ++ [vT] ++ (zs zf136 9 105))) kr (fun zf136 => ?_)
  refine wpIn_ret ?_
  refine leave0 (v := vT) (res1 Try.results3 rfl) ?_
  exact ⟨rfl, oW⟩
 refine wQ (pL ?_)
 refine wI (n_eql (a := ((wh % ((6 : Nat) : Int)).toNat)) (b := 4) rfl rfl rfl) ?_
 refine wI (d_assign rfl) ?_
 refine wD (tN ?_)
 refine cond_if rfl (fun q4 => ?_) (fun q4 => ?_)
 ·
  refine pL ?_
  refine wI (d_move rfl) ?_
  refine wF ([(zf82 0), u1, (zf82 2), vT, (ptr gb 0), (zf82 5), (zf82 6), (zf82 7), (zf82 8), (eN 1), (ptr hb 0)] ++ (zs zf82 11 18 ++ [(eN ((wh % ((6 : Nat) : Int)).toNat))] ++ (zs zf82 30 10 ++ [(Value.bool (decide (((wh % ((6 : Nat) : Int)).toNat) = 2))), (zf82 41), (zf82 42), (zf82 43), (zf82 44), (Value.bool (decide (((wh % ((6 : Nat) : Int)).toNat) = 3))), (Value.bool (decide (((wh % ((6 : Nat) : Int)).toNat) = 3))), (zf82 47), (zf82 48), (zf82 49), (Value.bool (decide (((wh % ((6 : Nat) : Int)).toNat) = 4))), (Value.bool (decide (((wh % ((6 : Nat) : Int)).toNat) = 4))), (eN 1)] ++ (zs zf82 53 61)))) ?_
  refine wI (n_add (a := 8) (b := 1) rfl rfl oo) ?_
  refine wI (d_fieldAddr (j := 2) Try.underlying23 rfl s_ti3 (by decide) rfl rfl) ?_
  refine wO (d_store s_ti3 rfl rfl rfl a24 (nb rfl) rfl) ?_
  rintro _ w137 ⟨a138, o139⟩
  replace h1 := h1.stepb o139 in1
  replace a13 := a13.step o139 (fun e => absurd e n_gb_hb)
  replace oW := oW.tailb o139 g_oW_hb
  refine wD ?_
  refine inb_n (tN ?_)
  refine forget (fun zf140 => ([(zf140 0), u1, (zf140 2), vT, (ptr gb 0)] ++ (zs zf140 5 5 ++ [(ptr hb 0)] ++ (zs zf140 11 103)))) kr (fun zf140 => ?_)
  refine wQ (pL ?_)
  refine wI (d_loadAg (vs := [(eI a), (eI b), (eI c)]) ⟨_, Try.underlying23, rfl⟩ s_ti23 rfl a13 rfl rfl) ?_
  refine wI (d_move rfl) ?_
  refine wO (d_call (xl := [.tmp 61, .tmp 62]) (al := [(Value.agg #[(eI a), (eI b), (eI c)]), u1]) Try.func13 kr rfl rfl rfl (nandNewA_ok a b c lb u1 _ (Ps.no h1) (by first | omega | simp))) ?_
  rintro _ w141 ⟨u143, rfl, o142⟩
  replace h1 := h1.step0 o142
  replace a13 := a13.step0 o142
  replace a138 := a138.step0 o142
  replace oW := oW.tail0 o142
  refine wI (d_move rfl) ?_
  refine wI (d_extract (v := u143) rfl rfl) ?_
  refine wF ([(zf140 0), u1, (zf140 2), vT, (ptr gb 0)] ++ (zs zf140 5 5 ++ [(ptr hb 0)] ++ (zs zf140 11 49 ++ [(Value.tuple #[u143, (eN (newA a b c lb))]), (Value.agg #[(eI a), (eI b), (eI c)]), u1, (Value.tuple #[u143, (eN (newA a b c lb))]), u143] ++ (zs zf140 65 49)))) ?_
  refine wI (d_extract (v := (eN (newA a b c lb))) rfl rfl) ?_
  refine wI (d_assign rfl) ?_
  refine wI (d_assign rfl) ?_
  refine wD (tN (wQ (pL ?_)))
  refine wI (d_loadAg (vs := [(eI a), (eI b), (eI c)]) ⟨_, Try.underlying23, rfl⟩ s_ti23 rfl a13 rfl rfl) ?_
  refine wI (d_move rfl) ?_
  refine wF ([(zf140 0), u1, (zf140 2), vT, (ptr gb 0)] ++ (zs zf140 5 5 ++ [(ptr hb 0), u143, (eN (newA a b c lb))] ++ (zs zf140 13 47 ++ [(Value.tuple #[u143, (eN (newA a b c lb))]), (Value.agg #[(eI a), (eI b), (eI c)]), u1, (Value.tuple #[u143, (eN (newA a b c lb))]), u143, (eN (newA a b c lb)), (zf140 66), (Value.agg #[(eI a), (eI b), (eI c)]), u1] ++ (zs zf140 69 45)))) ?_
  refine wO (d_call (xl := [.tmp 67, .tmp 68]) (al := [(Value.agg #[(eI a), (eI b), (eI c)]), u1]) Try.func14 kr rfl rfl rfl (ref7NewA_ok a b c lb u1 _ (Ps.no h1) (by first | omega | simp))) ?_
  rintro _ w144 ⟨u146, rfl, o145⟩
  replace h1 := h1.step0 o145
  replace a13 := a13.step0 o145
  replace a138 := a138.step0 o145
  replace oW := oW.tail0 o145
  refine wI (d_move rfl) ?_
  refine wI (d_extract (v := u146) rfl rfl) ?_
  refine wI (d_extract (v := (eN (newA a b c lb))) rfl rfl) ?_
  refine wI (d_assign rfl) ?_
  refine wF ([(zf140 0), u1, (zf140 2), vT, (ptr gb 0)] ++ (zs zf140 5 5 ++ [(ptr hb 0), u143, (eN (newA a b c lb)), u146] ++ (zs zf140 14 46 ++ [(Value.tuple #[u143, (eN (newA a b c lb))]), (Value.agg #[(eI a), (eI b), (eI c)]), u1, (Value.tuple #[u143, (eN (newA a b c lb))]), u143, (eN (newA a b c lb)), (Value.tuple #[u146, (eN (newA a b c lb))]), (Value.agg #[(eI a), (eI b), (eI c)]), u1, (Value.tuple #[u146, (eN (newA a b c lb))]), u146, (eN (newA a b c lb))] ++ (zs zf140 72 42)))) ?_
  refine wI (d_assign rfl) ?_
  refine wD (tN ?_)
  refine forget (fun zf147 => ([(zf147 0), u1, (zf147 2), vT, (ptr gb 0)] ++ (zs zf147 5 5 ++ [(ptr hb 0), (zf147 11), (eN (newA a b c lb)), (zf147 13), (eN (newA a b c lb))] ++ (zs zf147 15 99)))) kr (fun zf147 => ?_)
  refine wQ (pL ?_)
  refine wI (d_loadAg (vs := [(eN 7), (eN 9), (eN 9)]) ⟨_, Try.underlying23, rfl⟩ s_ti23 rfl a138 rfl rfl) ?_
  refine wO (d_call (xl := [.tmp 73, .const (.slice none 0 0)]) (al := [(Value.agg #[(eN 7), (eN 9), (eN 9)]), (Value.slice none 0 0)]) Try.func13 kr rfl rfl rfl (nandNewA_ok 7 9 9 ([] : List (Int × Int)) (Value.slice none 0 0) _ seq_nilA (by first | omega | simp))) ?_
  rintro _ w148 ⟨u150, rfl, o149⟩
  replace h1 := h1.step0 o149
  replace a13 := a13.step0 o149
  replace a138 := a138.step0 o149
  replace oW := oW.tail0 o149
  refine wI (d_move rfl) ?_
  refine wI (d_extract (v := u150) rfl rfl) ?_
  refine wI (d_extract (v := (eN (newA 7 9 9 ([] : List (Int × Int))))) rfl rfl) ?_
  refine wF ([(zf147 0), u1, (zf147 2), vT, (ptr gb 0)] ++ (zs zf147 5 5 ++ [(ptr hb 0), (zf147 11), (eN (newA a b c lb)), (zf147 13), (eN (newA a b c lb))] ++ (zs zf147 15 57 ++ [(Value.tuple #[u150, (eN (newA 7 9 9 ([] : List (Int × Int))))]), (Value.agg #[(eN 7), (eN 9), (eN 9)]), (Value.tuple #[u150, (eN (newA 7 9 9 ([] : List (Int × Int))))]), u150, (eN (newA 7 9 9 ([] : List (Int × Int))))] ++ (zs zf147 77 37)))) ?_
  refine wI (d_assign rfl) ?_
  refine wI (d_assign rfl) ?_
  refine wD (tN (wQ (pL ?_)))
  refine wI (d_loadAg (vs := [(eI a), (eI b), (eI c)]) ⟨_, Try.underlying23, rfl⟩ s_ti23 rfl a13 rfl rfl) ?_
  refine wO (d_call (xl := [.tmp 78]) (al := [(Value.agg #[(eI a), (eI b), (eI c)])]) Try.func15 kr rfl rfl rfl (law7Make_ok a b c _)) ?_
  rintro _ w151 ⟨rfl, o152⟩
  replace h1 := h1.step0 o152
  replace a13 := a13.step0 o152
  replace a138 := a138.step0 o152
  replace oW := oW.tail0 o152
  refine wI (d_move rfl) ?_
  refine wF ([(zf147 0), u1, (zf147 2), vT, (ptr gb 0)] ++ (zs zf147 5 5 ++ [(ptr hb 0), (zf147 11), (eN (newA a b c lb)), (zf147 13), (eN (newA a b c lb)), u150, (eN (newA 7 9 9 ([] : List (Int × Int))))] ++ (zs zf147 17 55 ++ [(Value.tuple #[u150, (eN (newA 7 9 9 ([] : List (Int × Int))))]), (Value.agg #[(eN 7), (eN 9), (eN 9)]), (Value.tuple #[u150, (eN (newA 7 9 9 ([] : List (Int × Int))))]), u150, (eN (newA 7 9 9 ([] : List (Int × Int)))), (zf147 77), (Value.agg #[(eI a), (eI b), (eI c)]), (Value.agg #[(eN (6 + (a % ((3 : Nat) : Int)).toNat)), (eN (8 + (b % ((5 : Nat) : Int)).toNat)), (eN (4 + (c % ((5 : Nat) : Int)).toNat))]), u1] ++ (zs zf147 81 33)))) ?_
  refine wO (d_call (xl := [.tmp 79, .tmp 80]) (al := [(Value.agg #[(eN (6 + (a % ((3 : Nat) : Int)).toNat)), (eN (8 + (b % ((5 : Nat) : Int)).toNat)), (eN (4 + (c % ((5 : Nat) : Int)).toNat))]), u1]) Try.func13 kr rfl rfl rfl (nandNewA_ok ((6 + (a % ((3 : Nat) : Int)).toNat : Nat) : Int) ((8 + (b % ((5 : Nat) : Int)).toNat : Nat) : Int) ((4 + (c % ((5 : Nat) : Int)).toNat : Nat) : Int) lb u1 _ (Ps.no h1) (by first | omega | simp))) ?_
  rintro _ w153 ⟨u155, rfl, o154⟩
  replace h1 := h1.step0 o154
  replace a13 := a13.step0 o154
  replace a138 := a138.step0 o154
  replace oW := oW.tail0 o154
  refine wI (d_move rfl) ?_
  refine wI (d_extract (v := u155) rfl rfl) ?_
  refine wI (d_extract (v := (eN (newA ((6 + (a % ((3 : Nat) : Int)).toNat : Nat) : Int) ((8 + (b % ((5 : Nat) : Int)).toNat : Nat) : Int) ((4 + (c % ((5 : Nat) : Int)).toNat : Nat) : Int) lb))) rfl rfl) ?_
  refine wI (d_assign rfl) ?_
  refine wF ([(zf147 0), u1, (zf147 2), vT, (ptr gb 0)] ++ (zs zf147 5 5 ++ [(ptr hb 0), (zf147 11), (eN (newA a b c lb)), (zf147 13), (eN (newA a b c lb)), u150, (eN (newA 7 9 9 ([] : List (Int × Int)))), u155] ++ (zs zf147 18 54 ++ [(Value.tuple #[u150, (eN (newA 7 9 9 ([] : List (Int × Int))))]), (Value.agg #[(eN 7), (eN 9), (eN 9)]), (Value.tuple #[u150, (eN (newA 7 9 9 ([] : List (Int × Int))))]), u150, (eN (newA 7 9 9 ([] : List (Int × Int)))), (Value.tuple #[u155, (eN (newA ((6 + (a % ((3 : Nat) : Int)).toNat : Nat) : Int) ((8 + (b % ((5 : Nat) : Int)).toNat : Nat) : Int) ((4 + (c % ((5 : Nat) : Int)).toNat : Nat) : Int) lb))]), (Value.agg #[(eI a), (eI b), (eI c)]), (Value.agg #[(eN (6 + (a % ((3 : Nat) : Int)).toNat)), (eN (8 + (b % ((5 : Nat) : Int)).toNat)), (eN (4 + (c % ((5 : Nat) : Int)).toNat))]), u1, (Value.tuple #[u155, (eN (newA ((6 + (a % ((3 : Nat) : Int)).toNat : Nat) : Int) ((8 + (b % ((5 : Nat) : Int)).toNat : Nat) : Int) ((4 + (c % ((5 : Nat) : Int)).toNat : Nat) : Int) lb))]), u155, (eN (newA ((6 + (a % ((3 : Nat) : Int)).toNat : Nat) : Int) ((8 + (b % ((5 : Nat) : Int)).toNat : Nat) : Int) ((4 + (c % ((5 : Nat) : Int)).toNat : Nat) : Int) lb))] ++ (zs zf147 84 30)))) ?_
  refine wI (d_assign rfl) ?_
  refine wD (tN ?_)
  refine forget (fun zf156 => ([(zf156 0), u1, (zf156 2), vT, (ptr gb 0)] ++ (zs zf156 5 7 ++ [(eN (newA a b c lb)), (zf156 13), (eN (newA a b c lb)), (zf156 15), (eN (newA 7 9 9 ([] : List (Int × Int)))), (zf156 17), (eN (newA ((6 + (a % ((3 : Nat) : Int)).toNat : Nat) : Int) ((8 + (b % ((5 : Nat) : Int)).toNat : Nat) : Int) ((4 + (c % ((5 : Nat) : Int)).toNat : Nat) : Int) lb))] ++ (zs zf156 19 95)))) kr (fun zf156 => ?_)
  refine wQ (pL ?_)
  refine wI (d_loadAg (vs := [(eI a), (eI b), (eI c)]) ⟨_, Try.underlying23, rfl⟩ s_ti23 rfl a13 rfl rfl) ?_
  refine wO (d_call (xl := [.tmp 85]) (al := [(Value.agg #[(eI a), (eI b), (eI c)])]) Try.func15 kr rfl rfl rfl (law7Make_ok a b c _)) ?_
  rintro _ w157 ⟨rfl, o158⟩
  replace h1 := h1.step0 o158
  replace a13 := a13.step0 o158
  replace a138 := a138.step0 o158
  replace oW := oW.tail0 o158
  refine wI (d_move rfl) ?_
  refine wO (d_call (xl := [.tmp 86, .tmp 87]) (al := [(Value.agg #[(eN (6 + (a % ((3 : Nat) : Int)).toNat)), (eN (8 + (b % ((5 : Nat) : Int)).toNat)), (eN (4 + (c % ((5 : Nat) : Int)).toNat))]), u1]) Try.func14 kr rfl rfl rfl (ref7NewA_ok ((6 + (a % ((3 : Nat) : Int)).toNat : Nat) : Int) ((8 + (b % ((5 : Nat) : Int)).toNat : Nat) : Int) ((4 + (c % ((5 : Nat) : Int)).toNat : Nat) : Int) lb u1 _ (Ps.no h1) (by first | omega | simp))) ?_
  rintro _ w159 ⟨u161, rfl, o160⟩
  replace h1 := h1.step0 o160
  replace a13 := a13.step0 o160
  replace a138 := a138.step0 o160
  replace oW := oW.tail0 o160
  refine wI (d_move rfl) ?_
  refine wF ([(zf156 0), u1, (zf156 2), vT, (ptr gb 0)] ++ (zs zf156 5 7 ++ [(eN (newA a b c lb)), (zf156 13), (eN (newA a b c lb)), (zf156 15), (eN (newA 7 9 9 ([] : List (Int × Int)))), (zf156 17), (eN (newA ((6 + (a % ((3 : Nat) : Int)).toNat : Nat) : Int) ((8 + (b % ((5 : Nat) : Int)).toNat : Nat) : Int) ((4 + (c % ((5 : Nat) : Int)).toNat : Nat) : Int) lb))] ++ (zs zf156 19 65 ++ [(Value.tuple #[u161, (eN (newA ((6 + (a % ((3 : Nat) : Int)).toNat : Nat) : Int) ((8 + (b % ((5 : Nat) : Int)).toNat : Nat) : Int) ((4 + (c % ((5 : Nat) : Int)).toNat : Nat) : Int) lb))]), (Value.agg #[(eI a), (eI b), (eI c)]), (Value.agg #[(eN (6 + (a % ((3 : Nat) : Int)).toNat)), (eN (8 + (b % ((5 : Nat) : Int)).toNat)), (eN (4 + (c % ((5 : Nat) : Int)).toNat))]), u1, (Value.tuple #[u161, (eN (newA ((6 + (a % ((3 : Nat) : Int)).toNat : Nat) : Int) ((8 + (b % ((5 : Nat) : Int)).toNat : Nat) : Int) ((4 + (c % ((5 : Nat) : Int)).toNat : Nat) : Int) lb))])] ++ (zs zf156 89 25)))) ?_
  refine wI (d_extract (v := u161) rfl rfl) ?_
  refine wI (d_extract (v := (eN (newA ((6 + (a % ((3 : Nat) : Int)).toNat : Nat) : Int) ((8 + (b % ((5 : Nat) : Int)).toNat : Nat) : Int) ((4 + (c % ((5 : Nat) : Int)).toNat : Nat) : Int) lb))) rfl rfl) ?_
  refine wI (d_assign rfl) ?_
  refine wI (d_assign rfl) ?_
  refine wD (tN ?_)
  refine forget (fun zf162 => ([(zf162 0), (zf162 1), (zf162 2), vT] ++ (zs zf162 4 8 ++ [(eN (newA a b c lb)), (zf162 13), (eN (newA a b c lb)), (zf162 15), (eN (newA 7 9 9 ([] : List (Int × Int)))), (zf162 17), (eN (newA ((6 + (a % ((3 : Nat) : Int)).toNat : Nat) : Int) ((8 + (b % ((5 : Nat) : Int)).toNat : Nat) : Int) ((4 + (c % ((5 : Nat) : Int)).toNat : Nat) : Int) lb)), (zf162 19), (eN (newA ((6 + (a % ((3 : Nat) : Int)).toNat : Nat) : Int) ((8 + (b % ((5 : Nat) : Int)).toNat : Nat) : Int) ((4 + (c % ((5 : Nat) : Int)).toNat : Nat) : Int) lb))] ++ (zs zf162 21 93)))) kr (fun zf162 => ?_)
  refine wQ (pL ?_)
  refine wI (d_move rfl) ?_
  refine wI (d_move rfl) ?_
  refine wI (n_eql (a := (newA a b c lb)) (b := (newA a b c lb)) rfl rfl (decide_eq_true rfl)) ?_
  refine wI (d_move rfl) ?_
  refine wG (d_move rfl) ?_
  refine wF ([(zf162 0), (zf162 1), (zf162 2), vT] ++ (zs zf162 4 8 ++ [(eN (newA a b c lb)), (zf162 13), (eN (newA a b c lb)), (zf162 15), (eN (newA 7 9 9 ([] : List (Int × Int)))), (zf162 17), (eN (newA ((6 + (a % ((3 : Nat) : Int)).toNat : Nat) : Int) ((8 + (b % ((5 : Nat) : Int)).toNat : Nat) : Int) ((4 + (c % ((5 : Nat) : Int)).toNat : Nat) : Int) lb)), (zf162 19), (eN (newA ((6 + (a % ((3 : Nat) : Int)).toNat : Nat) : Int) ((8 + (b % ((5 : Nat) : Int)).toNat : Nat) : Int) ((4 + (c % ((5 : Nat) : Int)).toNat : Nat) : Int) lb))] ++ (zs zf162 21 70 ++ [(eN (newA a b c lb)), (eN (newA a b c lb)), vT, vT, (eN (newA ((6 + (a % ((3 : Nat) : Int)).toNat : Nat) : Int) ((8 + (b % ((5 : Nat) : Int)).toNat : Nat) : Int) ((4 + (c % ((5 : Nat) : Int)).toNat : Nat) : Int) lb))] ++ (zs zf162 96 18)))) ?_
  refine wG (d_move rfl) ?_
  refine wG (n_eql (a := (newA ((6 + (a % ((3 : Nat) : Int)).toNat : Nat) : Int) ((8 + (b % ((5 : Nat) : Int)).toNat : Nat) : Int) ((4 + (c % ((5 : Nat) : Int)).toNat : Nat) : Int) lb)) (b := (newA ((6 + (a % ((3 : Nat) : Int)).toNat : Nat) : Int) ((8 + (b % ((5 : Nat) : Int)).toNat : Nat) : Int) ((4 + (c % ((5 : Nat) : Int)).toNat : Nat) : Int) lb)) rfl rfl (decide_eq_true rfl)) ?_
  refine wI (d_pick (b := true) (v := vT) rfl rfl) ?_
  refine wI (d_move rfl) ?_
  refine wG (d_move rfl) ?_
  refine wF ([(zf162 0), (zf162 1), (zf162 2), vT] ++ (zs zf162 4 8 ++ [(eN (newA a b c lb)), (zf162 13), (eN (newA a b c lb)), (zf162 15), (eN (newA 7 9 9 ([] : List (Int × Int)))), (zf162 17), (eN (newA ((6 + (a % ((3 : Nat) : Int)).toNat : Nat) : Int) ((8 + (b % ((5 : Nat) : Int)).toNat : Nat) : Int) ((4 + (c % ((5 : Nat) : Int)).toNat : Nat) : Int) lb)), (zf162 19), (eN (newA ((6 + (a % ((3 : Nat) : Int)).toNat : Nat) : Int) ((8 + (b % ((5 : Nat) : Int)).toNat : Nat) : Int) ((4 + (c % ((5 : Nat) : Int)).toNat : Nat) : Int) lb))] ++ (zs zf162 21 70 ++ [(eN (newA a b c lb)), (eN (newA a b c lb)), vT, vT, (eN (newA ((6 + (a % ((3 : Nat) : Int)).toNat : Nat) : Int) ((8 + (b % ((5 : Nat) : Int)).toNat : Nat) : Int) ((4 + (c % ((5 : Nat) : Int)).toNat : Nat) : Int) lb)), (eN (newA ((6 + (a % ((3 : Nat) : Int)).toNat : Nat) : Int) ((8 + (b % ((5 : Nat) : Int)).toNat : Nat) : Int) ((4 + (c % ((5 : Nat) : Int)).toNat : Nat) : Int) lb)), vT, vT, vT, (eN (newA 7 9 9 ([] : List (Int × Int))))] ++ (zs zf162 101 13)))) ?_
  refine wG (n_eql (a := (newA 7 9 9 ([] : List (Int × Int)))) (b := 0) rfl rfl (decide_eq_false (by rw [newA_no (by unfold fitsA; omega)]; decide))) ?_
  refine wG (d_move rfl) ?_
  refine wG (d_not rfl rfl) ?_
  refine wG (d_beql Try.underlying4 rfl rfl rfl) ?_
  refine wI (d_pick (b := true) (v := vT) rfl rfl) ?_
  refine wF ([(zf162 0), (zf162 1), (zf162 2), vT] ++ (zs zf162 4 8 ++ [(eN (newA a b c lb)), (zf162 13), (eN (newA a b c lb)), (zf162 15), (eN (newA 7 9 9 ([] : List (Int × Int)))), (zf162 17), (eN (newA ((6 + (a % ((3 : Nat) : Int)).toNat : Nat) : Int) ((8 + (b % ((5 : Nat) : Int)).toNat : Nat) : Int) ((4 + (c % ((5 : Nat) : Int)).toNat : Nat) : Int) lb)), (zf162 19), (eN (newA ((6 + (a % ((3 : Nat) : Int)).toNat : Nat) : Int) ((8 + (b % ((5 : Nat) : Int)).toNat : Nat) : Int) ((4 + (c % ((5 : Nat) : Int)).toNat : Nat) : Int) lb))] ++ (zs zf162 21 70 ++ [(eN (newA a b c lb)), (eN (newA a b c lb)), vT, vT, (eN (newA ((6 + (a % ((3 : Nat) : Int)).toNat : Nat) : Int) ((8 + (b % ((5 : Nat) : Int)).toNat : Nat) : Int) ((4 + (c % ((5 : Nat) : Int)).toNat : Nat) : Int) lb)), (eN (newA ((6 + (a % ((3 : Nat) : Int)).toNat : Nat) : Int) ((8 + (b % ((5 : Nat) : Int)).toNat : Nat) : Int) ((4 + (c % ((5 : Nat) : Int)).toNat : Nat) : Int) lb)), vT, vT, vT, (eN (newA 7 9 9 ([] : List (Int × Int)))), vF, vT, vF, vT, vT] ++ (zs zf162 106 8)))) ?_
  refine wI (d_move rfl) ?_
  refine wG (d_move rfl) ?_
  refine wG (d_not rfl rfl) ?_
  refine wG (d_move rfl) ?_
  refine wG (d_move rfl) ?_
  refine wF ([(zf162 0), (zf162 1), (zf162 2), vT] ++ (zs zf162 4 8 ++ [(eN (newA a b c lb)), (zf162 13), (eN (newA a b c lb)), (zf162 15), (eN (newA 7 9 9 ([] : List (Int × Int)))), (zf162 17), (eN (newA ((6 + (a % ((3 : Nat) : Int)).toNat : Nat) : Int) ((8 + (b % ((5 : Nat) : Int)).toNat : Nat) : Int) ((4 + (c % ((5 : Nat) : Int)).toNat : Nat) : Int) lb)), (zf162 19), (eN (newA ((6 + (a % ((3 : Nat) : Int)).toNat : Nat) : Int) ((8 + (b % ((5 : Nat) : Int)).toNat : Nat) : Int) ((4 + (c % ((5 : Nat) : Int)).toNat : Nat) : Int) lb))] ++ (zs zf162 21 70 ++ [(eN (newA a b c lb)), (eN (newA a b c lb)), vT, vT, (eN (newA ((6 + (a % ((3 : Nat) : Int)).toNat : Nat) : Int) ((8 + (b % ((5 : Nat) : Int)).toNat : Nat) : Int) ((4 + (c % ((5 : Nat) : Int)).toNat : Nat) : Int) lb)), (eN (newA ((6 + (a % ((3 : Nat) : Int)).toNat : Nat) : Int) ((8 + (b % ((5 : Nat) : Int)).toNat : Nat) : Int) ((4 + (c % ((5 : Nat) : Int)).toNat : Nat) : Int) lb)), vT, vT, vT, (eN (newA 7 9 9 ([] : List (Int × Int)))), vF, vT, vF, vT, vT, vT, vT, vF, vF, (eN (newA 7 9 9 ([] : List (Int × Int)))), (zf162 111), (zf162 112), (zf162 113)]))) ?_
  refine wG (n_eql (a := (newA 7 9 9 ([] : List (Int × Int)))) (b := 1) rfl rfl (decide_eq_true (newA_no (by unfold fitsA; omega)))) ?_
  refine wG (d_pick (b := false) (v := vT) rfl rfl) ?_
  refine wI (d_pick (b := true) (v := vT) rfl rfl) ?_
  refine wI (d_assign rfl) ?_
  refine wD (tN ?_)
  refine forget (fun zf163 => (zs zf163 0 8 ++ [vT] ++ (zs zf163 9 105))) kr (fun zf163 => ?_)
  refine wpIn_ret ?_
  refine leave0 (v := vT) (res1 Try.results3 rfl) ?_
  exact ⟨rfl, oW⟩
 refine wQ (pL ?_)
 refine wI (n_eql (a := ((wh % ((6 : Nat) : Int)).toNat)) (b := 5) rfl rfl rfl) ?_
 refine wF ([(zf82 0), u1, (zf82 2), vT, (ptr gb 0), (zf82 5), (zf82 6), (zf82 7), (zf82 8), (eN 1), (ptr hb 0)] ++ (zs zf82 11 18 ++ [(eN ((wh % ((6 : Nat) : Int)).toNat))] ++ (zs zf82 30 10 ++ [(Value.bool (decide (((wh % ((6 : Nat) : Int)).toNat) = 2))), (zf82 41), (zf82 42), (zf82 43), (zf82 44), (Value.bool (decide (((wh % ((6 : Nat) : Int)).toNat) = 3))), (Value.bool (decide (((wh % ((6 : Nat) : Int)).toNat) = 3))), (zf82 47), (zf82 48), (zf82 49), (Value.bool (decide (((wh % ((6 : Nat) : Int)).toNat) = 4))), (Value.bool (decide (((wh % ((6 : Nat) : Int)).toNat) = 4))), (zf82 52), (zf82 53), (zf82 54), (zf82 55), (Value.bool (decide (((wh % ((6 : Nat) : Int)).toNat) = 5)))] ++ (zs zf82 57 57)))) ?_
 refine wI (d_assign rfl) ?_
 refine wD (tN ?_)
 refine cond_if rfl (fun q5 => ?_) (fun q5 => ?_)
 ·
  refine pL ?_
  refine wI (d_move rfl) ?_
  refine wI (n_sub (a := 4) (b := 1) rfl rfl oo oo) ?_
  refine wI (d_fieldAddr (j := 2) Try.underlying23 rfl s_ti3 (by decide) rfl rfl) ?_
  refine wO (d_store s_ti3 rfl rfl rfl a24 (nb rfl) rfl) ?_
  rintro _ w164 ⟨a165, o166⟩
  replace h1 := h1.stepb o166 in1
  replace a13 := a13.step o166 (fun e => absurd e n_gb_hb)
  replace oW := oW.tailb o166 g_oW_hb
  refine wF ([(zf82 0), u1, (zf82 2), vT, (ptr gb 0), (zf82 5), (zf82 6), (zf82 7), (zf82 8), (eN 1), (ptr hb 0)] ++ (zs zf82 11 18 ++ [(eN ((wh % ((6 : Nat) : Int)).toNat))] ++ (zs zf82 30 10 ++ [(Value.bool (decide (((wh % ((6 : Nat) : Int)).toNat) = 2))), (zf82 41), (zf82 42), (zf82 43), (zf82 44), (Value.bool (decide (((wh % ((6 : Nat) : Int)).toNat) = 3))), (Value.bool (decide (((wh % ((6 : Nat) : Int)).toNat) = 3))), (zf82 47), (zf82 48), (zf82 49), (Value.bool (decide (((wh % ((6 : Nat) : Int)).toNat) = 4))), (Value.bool (decide (((wh % ((6 : Nat) : Int)).toNat) = 4))), (zf82 52), (zf82 53), (zf82 54), (Value.bool (decide (((wh % ((6 : Nat) : Int)).toNat) = 5))), (Value.bool (decide (((wh % ((6 : Nat) : Int)).toNat) = 5))), (eN 1), (eN 3), (ptr hb 2)] ++ (zs zf82 60 54)))) ?_
  refine wD ?_
  refine inb_n (tN ?_)
  refine forget (fun zf167 => ([(zf167 0), u1, (zf167 2), vT, (ptr gb 0)] ++ (zs zf167 5 5 ++ [(ptr hb 0)] ++ (zs zf167 11 103)))) kr (fun zf167 => ?_)
  refine wQ (pL ?_)
  refine wI (d_loadAg (vs := [(eI a), (eI b), (eI c)]) ⟨_, Try.underlying23, rfl⟩ s_ti23 rfl a13 rfl rfl) ?_
  refine wI (d_move rfl) ?_
  refine wO (d_call (xl := [.tmp 61, .tmp 62]) (al := [(Value.agg #[(eI a), (eI b), (eI c)]), u1]) Try.func13 kr rfl rfl rfl (nandNewA_ok a b c lb u1 _ (Ps.no h1) (by first | omega | simp))) ?_
  rintro _ w168 ⟨u170, rfl, o169⟩
  replace h1 := h1.step0 o169
  replace a13 := a13.step0 o169
  replace a165 := a165.step0 o169
  replace oW := oW.tail0 o169
  refine wI (d_move rfl) ?_
  refine wI (d_extract (v := u170) rfl rfl) ?_
  refine wF ([(zf167 0), u1, (zf167 2), vT, (ptr gb 0)] ++ (zs zf167 5 5 ++ [(ptr hb 0)] ++ (zs zf167 11 49 ++ [(Value.tuple #[u170, (eN (newA a b c lb))]), (Value.agg #[(eI a), (eI b), (eI c)]), u1, (Value.tuple #[u170, (eN (newA a b c lb))]), u170] ++ (zs zf167 65 49)))) ?_
  refine wI (d_extract (v := (eN (newA a b c lb))) rfl rfl) ?_
  refine wI (d_assign rfl) ?_
  refine wI (d_assign rfl) ?_
  refine wD (tN (wQ (pL ?_)))
  refine wI (d_loadAg (vs := [(eI a), (eI b), (eI c)]) ⟨_, Try.underlying23, rfl⟩ s_ti23 rfl a13 rfl rfl) ?_
  refine wI (d_move rfl) ?_
  refine wF ([(zf167 0), u1, (zf167 2), vT, (ptr gb 0)] ++ (zs zf167 5 5 ++ [(ptr hb 0), u170, (eN (newA a b c lb))] ++ (zs zf167 13 47 ++ [(Value.tuple #[u170, (eN (newA a b c lb))]), (Value.agg #[(eI a), (eI b), (eI c)]), u1, (Value.tuple #[u170, (eN (newA a b c lb))]), u170, (eN (newA a b c lb)), (zf167 66), (Value.agg #[(eI a), (eI b), (eI c)]), u1] ++ (zs zf167 69 45)))) ?_
  refine wO (d_call (xl := [.tmp 67, .tmp 68]) (al := [(Value.agg #[(eI a), (eI b), (eI c)]), u1]) Try.func14 kr rfl rfl rfl (ref7NewA_ok a b c lb u1 _ (Ps.no h1) (by first | omega | simp))) ?_
  rintro _ w171 ⟨u173, rfl, o172⟩
  replace h1 := h1.step0 o172
  replace a13 := a13.step0 o172
  replace a165 := a165.step0 o172
  replace oW := oW.tail0 o172
  refine wI (d_move rfl) ?_
  refine wI (d_extract (v := u173) rfl rfl) ?_
  refine wI (d_extract (v := (eN (newA a b c lb))) rfl rfl) ?_
  refine wI (d_assign rfl) ?_
  refine wF ([(zf167 0), u1, (zf167 2), vT, (ptr gb 0)] ++ (zs zf167 5 5 ++ [(ptr hb 0), u170, (eN (newA a b c lb)), u173] ++ (zs zf167 14 46 ++ [(Value.tuple #[u170, (eN (newA a b c lb))]), (Value.agg #[(eI a), (eI b), (eI c)]), u1, (Value.tuple #[u170, (eN (newA a b c lb))]), u170, (eN (newA a b c lb)), (Value.tuple #[u173, (eN (newA a b c lb))]), (Value.agg #[(eI a), (eI b), (eI c)]), u1, (Value.tuple #[u173, (eN (newA a b c lb))]), u173, (eN (newA a b c lb))] ++ (zs zf167 72 42)))) ?_
  refine wI (d_assign rfl) ?_
  refine wD (tN ?_)
  refine forget (fun zf174 => ([(zf174 0), u1, (zf174 2), vT, (ptr gb 0)] ++ (zs zf174 5 5 ++ [(ptr hb 0), (zf174 11), (eN (newA a b c lb)), (zf174 13), (eN (newA a b c lb))] ++ (zs zf174 15 99)))) kr (fun zf174 => ?_)
  refine wQ (pL ?_)
  refine wI (d_loadAg (vs := [(eN 7), (eN 9), (eN 3)]) ⟨_, Try.underlying23, rfl⟩ s_ti23 rfl a165 rfl rfl) ?_
  refine wO (d_call (xl := [.tmp 73, .const (.slice none 0 0)]) (al := [(Value.agg #[(eN 7), (eN 9), (eN 3)]), (Value.slice none 0 0)]) Try.func13 kr rfl rfl rfl (nandNewA_ok 7 9 3 ([] : List (Int × Int)) (Value.slice none 0 0) _ seq_nilA (by first | omega | simp))) ?_
  rintro _ w175 ⟨u177, rfl, o176⟩
  replace h1 := h1.step0 o176
  replace a13 := a13.step0 o176
  replace a165 := a165.step0 o176
  replace oW := oW.tail0 o176
  refine wI (d_move rfl) ?_
  refine wI (d_extract (v := u177) rfl rfl) ?_
  refine wI (d_extract (v := (eN (newA 7 9 3 ([] : List (Int × Int))))) rfl rfl) ?_
  refine wF ([(zf174 0), u1, (zf174 2), vT, (ptr gb 0)] ++ (zs zf174 5 5 ++ [(ptr hb 0), (zf174 11), (eN (newA a b c lb)), (zf174 13), (eN (newA a b c lb))] ++ (zs zf174 15 57 ++ [(Value.tuple #[u177, (eN (newA 7 9 3 ([] : List (Int × Int))))]), (Value.agg #[(eN 7), (eN 9), (eN 3)]), (Value.tuple #[u177, (eN (newA 7 9 3 ([] : List (Int × Int))))]), u177, (eN (newA 7 9 3 ([] : List (Int × Int))))] ++ (zs zf174 77 37)))) ?_
  refine wI (d_assign rfl) ?_
  refine wI (d_assign rfl) ?_
  refine wD (tN (wQ (pL ?_)))
  refine wI (d_loadAg (vs := [(eI a), (eI b), (eI c)]) ⟨_, Try.underlying23, rfl⟩ s_ti23 rfl a13 rfl rfl) ?_
  refine wO (d_call (xl := [.tmp 78]) (al := [(Value.agg #[(eI a), (eI b), (eI c)])]) Try.func15 kr rfl rfl rfl (law7Make_ok a b c _)) ?_
  rintro _ w178 ⟨rfl, o179⟩
  replace h1 := h1.step0 o179
  replace a13 := a13.step0 o179
  replace a165 := a165.step0 o179
  replace oW := oW.tail0 o179
  refine wI (d_move rfl) ?_
  refine wF ([(zf174 0), u1, (zf174 2), vT, (ptr gb 0)] ++ (zs zf174 5 5 ++ [(ptr hb 0), (zf174 11), (eN (newA a b c lb)), (zf174 13), (eN (newA a b c lb)), u177, (eN (newA 7 9 3 ([] : List (Int × Int))))] ++ (zs zf174 17 55 ++ [(Value.tuple #[u177, (eN (newA 7 9 3 ([] : List (Int × Int))))]), (Value.agg #[(eN 7), (eN 9), (eN 3)]), (Value.tuple #[u177, (eN (newA 7 9 3 ([] : List (Int × Int))))]), u177, (eN (newA 7 9 3 ([] : List (Int × Int)))), (zf174 77), (Value.agg #[(eI a), (eI b), (eI c)]), (Value.agg #[(eN (6 + (a % ((3 : Nat) : Int)).toNat)), (eN (8 + (b % ((5 : Nat) : Int)).toNat)), (eN (4 + (c % ((5 : Nat) : Int)).toNat))]), u1] ++ (zs zf174 81 33)))) ?_
  refine wO (d_call (xl := [.tmp 79, .tmp 80]) (al := [(Value.agg #[(eN (6 + (a % ((3 : Nat) : Int)).toNat)), (eN (8 + (b % ((5 : Nat) : Int)).toNat)), (eN (4 + (c % ((5 : Nat) : Int)).toNat))]), u1]) Try.func13 kr rfl rfl rfl (nandNewA_ok ((6 + (a % ((3 : Nat) : Int)).toNat : Nat) : Int) ((8 + (b % ((5 : Nat) : Int)).toNat : Nat) : Int) ((4 + (c % ((5 : Nat) : Int)).toNat : Nat) : Int) lb u1 _ (Ps.no h1) (by first | omega | simp))) ?_
  rintro _ w180 ⟨u182, rfl, o181⟩
  replace h1 := h1.step0 o181
  replace a13 := a13.step0 o181
  replace a165 := a165.step0 o181
  replace oW := oW.tail0 o181
  refine wI (d_move rfl) ?_
  refine wI (d_extract (v := u182) rfl rfl) ?_
  refine wI (d_extract (v := (eN (newA ((6 + (a % ((3 : Nat) : Int)).toNat : Nat) : Int) ((8 + (b % ((5 : Nat) : Int)).toNat : Nat) : Int) ((4 + (c % ((5 : Nat) : Int)).toNat : Nat) : Int) lb))) rfl rfl) ?_
  refine wI (d_assign rfl) ?_
  refine wF ([(zf174 0), u1, (zf174 2), vT, (ptr gb 0)] ++ (zs zf174 5 5 ++ [(ptr hb 0), (zf174 11), (eN (newA a b c lb)), (zf174 13), (eN (newA a b c lb)), u177, (eN (newA 7 9 3 ([] : List (Int × Int)))), u182] ++ (zs zf174 18 54 ++ [(Value.tuple #[u177, (eN (newA 7 9 3 ([] : List (Int × Int))))]), (Value.agg #[(eN 7), (eN 9), (eN 3)]), (Value.tuple #[u177, (eN (newA 7 9 3 ([] : List (Int × Int))))]), u177, (eN (newA 7 9 3 ([] : List (Int × Int)))), (Value.tuple #[u182, (eN (newA ((6 + (a % ((3 : Nat) : Int)).toNat : Nat) : Int) ((8 + (b % ((5 : Nat) : Int)).toNat : Nat) : Int) ((4 + (c % ((5 : Nat) : Int)).toNat : Nat) : Int) lb))]), (Value.agg #[(eI a), (eI b), (eI c)]), (Value.agg #[(eN (6 + (a % ((3 : Nat) : Int)).toNat)), (eN (8 + (b % ((5 : Nat) : Int)).toNat)), (eN (4 + (c % ((5 : Nat) : Int)).toNat))]), u1, (Value.tuple #[u182, (eN (newA ((6 + (a % ((3 : Nat) : Int)).toNat : Nat) : Int) ((8 + (b % ((5 : Nat) : Int)).toNat : Nat) : Int) ((4 + (c % ((5 : Nat) : Int)).toNat : Nat) : Int) lb))]), u182, (eN (newA ((6 + (a % ((3 : Nat) : Int)).toNat : Nat) : Int) ((8 + (b % ((5 : Nat) : Int)).toNat : Nat) : Int) ((4 + (c % ((5 : Nat) : Int)).toNat : Nat) : Int) lb))] ++ (zs zf174 84 30)))) ?_
  refine wI (d_assign rfl) ?_
  refine wD (tN ?_)
  refine forget (fun zf183 => ([(zf183 0), u1, (zf183 2), vT, (ptr gb 0)] ++ (zs zf183 5 7 ++ [(eN (newA a b c lb)), (zf183 13), (eN (newA a b c lb)), (zf183 15), (eN (newA 7 9 3 ([] : List (Int × Int)))), (zf183 17), (eN (newA ((6 + (a % ((3 : Nat) : Int)).toNat : Nat) : Int) ((8 + (b % ((5 : Nat) : Int)).toNat : Nat) : Int) ((4 + (c % ((5 : Nat) : Int)).toNat : Nat) : Int) lb))] ++ (zs zf183 19 95)))) kr (fun zf183 => ?_)
  refine wQ (pL ?_)
  refine wI (d_loadAg (vs := [(eI a), (eI b), (eI c)]) ⟨_, Try.underlying23, rfl⟩ s_ti23 rfl a13 rfl rfl) ?_
  refine wO (d_call (xl := [.tmp 85]) (al := [(Value.agg #[(eI a), (eI b), (eI c)])]) Try.func15 kr rfl rfl rfl (law7Make_ok a b c _)) ?_
  rintro _ w184 ⟨rfl, o185⟩
  replace h1 := h1.step0 o185
  replace a13 := a13.step0 o185
  replace a165 := a165.step0 o185
  replace oW := oW.tail0 o185
  refine wI (d_move rfl) ?_
  refine wO (d_call (xl := [.tmp 86, .tmp 87]) (al := [(Value.agg #[(eN (6 + (a % ((3 : Nat) : Int)).toNat)), (eN (8 + (b % ((5 : Nat) : Int)).toNat)), (eN (4 + (c % ((5 : Nat) : Int)).toNat))]), u1]) Try.func14 kr rfl rfl rfl (ref7NewA_ok ((6 + (a % ((3 : Nat) : Int)).toNat : Nat) : Int) ((8 + (b % ((5 : Nat) : Int)).toNat : Nat) : Int) ((4 + (c % ((5 : Nat) : Int)).toNat : Nat) : Int) lb u1 _ (Ps.no h1) (by first | omega | simp))) ?_
  rintro _ w186 ⟨u188, rfl, o187⟩
  replace h1 := h1.step0 o187
  replace a13 := a13.step0 o187
  replace a165 := a165.step0 o187
  replace oW := oW.tail0 o187
  refine wI (d_move rfl) ?_
  refine wF ([(zf183 0), u1, (zf183 2), vT, (ptr gb 0)] ++ (zs zf183 5 7 ++ [(eN (newA a b c lb)), (zf183 13), (eN (newA a b c lb)), (zf183 15), (eN (newA 7 9 3 ([] : List (Int × Int)))), (zf183 17), (eN (newA ((6 + (a % ((3 : Nat) : Int)).toNat : Nat) : Int) ((8 + (b % ((5 : Nat) : Int)).toNat : Nat) : Int) ((4 + (c % ((5 : Nat) : Int)).toNat : Nat) : Int) lb))] ++ (zs zf183 19 65 ++ [(Value.tuple #[u188, (eN (newA ((6 + (a % ((3 : Nat) : Int)).toNat : Nat) : Int) ((8 + (b % ((5 : Nat) : Int)).toNat : Nat) : Int) ((4 + (c % ((5 : Nat) : Int)).toNat : Nat) : Int) lb))]), (Value.agg #[(eI a), (eI b), (eI c)]), (Value.agg #[(eN (6 + (a % ((3 : Nat) : Int)).toNat)), (eN (8 + (b % ((5 : Nat) : Int)).toNat)), (eN (4 + (c % ((5 : Nat) : Int)).toNat))]), u1, (Value.tuple #[u188, (eN (newA ((6 + (a % ((3 : Nat) : Int)).toNat : Nat) : Int) ((8 + (b % ((5 : Nat) : Int)).toNat : Nat) : Int) ((4 + (c % ((5 : Nat) : Int)).toNat : Nat) : Int) lb))])] ++ (zs zf183 89 25)))) ?_
  refine wI (d_extract (v := u188) rfl rfl) ?_
  refine wI (d_extract (v := (eN (newA ((6 + (a % ((3 : Nat) : Int)).toNat : Nat) : Int) ((8 + (b % ((5 : Nat) : Int)).toNat : Nat) : Int) ((4 + (c % ((5 : Nat) : Int)).toNat : Nat) : Int) lb))) rfl rfl) ?_
  refine wI (d_assign rfl) ?_
  refine wI (d_assign rfl) ?_
  refine wD (tN ?_)
  refine forget (fun zf189 => ([(zf189 0), (zf189 1), (zf189 2), vT] ++ (zs zf189 4 8 ++ [(eN (newA a b c lb)), (zf189 13), (eN (newA a b c lb)), (zf189 15), (eN (newA 7 9 3 ([] : List (Int × Int)))), (zf189 17), (eN (newA ((6 + (a % ((3 : Nat) : Int)).toNat : Nat) : Int) ((8 + (b % ((5 : Nat) : Int)).toNat : Nat) : Int) ((4 + (c % ((5 : Nat) : Int)).toNat : Nat) : Int) lb)), (zf189 19), (eN (newA ((6 + (a % ((3 : Nat) : Int)).toNat : Nat) : Int) ((8 + (b % ((5 : Nat) : Int)).toNat : Nat) : Int) ((4 + (c % ((5 : Nat) : Int)).toNat : Nat) : Int) lb))] ++ (zs zf189 21 93)))) kr (fun zf189 => ?_)
  refine wQ (pL ?_)
  refine wI (d_move rfl) ?_
  refine wI (d_move rfl) ?_
  refine wI (n_eql (a := (newA a b c lb)) (b := (newA a b c lb)) rfl rfl (decide_eq_true rfl)) ?_
  refine wI (d_move rfl) ?_
  refine wG (d_move rfl) ?_
  refine wF ([(zf189 0), (zf189 1), (zf189 2), vT] ++ (zs zf189 4 8 ++ [(eN (newA a b c lb)), (zf189 13), (eN (newA a b c lb)), (zf189 15), (eN (newA 7 9 3 ([] : List (Int × Int)))), (zf189 17), (eN (newA ((6 + (a % ((3 : Nat) : Int)).toNat : Nat) : Int) ((8 + (b % ((5 : Nat) : Int)).toNat : Nat) : Int) ((4 + (c % ((5 : Nat) : Int)).toNat : Nat) : Int) lb)), (zf189 19), (eN (newA ((6 + (a % ((3 : Nat) : Int)).toNat : Nat) : Int) ((8 + (b % ((5 : Nat) : Int)).toNat : Nat) : Int) ((4 + (c % ((5 : Nat) : Int)).toNat : Nat) : Int) lb))] ++ (zs zf189 21 70 ++ [(eN (newA a b c lb)), (eN (newA a b c lb)), vT, vT, (eN (newA ((6 + (a % ((3 : Nat) : Int)).toNat : Nat) : Int) ((8 + (b % ((5 : Nat) : Int)).toNat : Nat) : Int) ((4 + (c % ((5 : Nat) : Int)).toNat : Nat) : Int) lb))] ++ (zs zf189 96 18)))) ?_
  refine wG (d_move rfl) ?_
  refine wG (n_eql (a := (newA ((6 + (a % ((3 : Nat) : Int)).toNat : Nat) : Int) ((8 + (b % ((5 : Nat) : Int)).toNat : Nat) : Int) ((4 + (c % ((5 : Nat) : Int)).toNat : Nat) : Int) lb)) (b := (newA ((6 + (a % ((3 : Nat) : Int)).toNat : Nat) : Int) ((8 + (b % ((5 : Nat) : Int)).toNat : Nat) : Int) ((4 + (c % ((5 : Nat) : Int)).toNat : Nat) : Int) lb)) rfl rfl (decide_eq_true rfl)) ?_
  refine wI (d_pick (b := true) (v := vT) rfl rfl) ?_
  refine wI (d_move rfl) ?_
  refine wG (d_move rfl) ?_
  refine wF ([(zf189 0), (zf189 1), (zf189 2), vT] ++ (zs zf189 4 8 ++ [(eN (newA a b c lb)), (zf189 13), (eN (newA a b c lb)), (zf189 15), (eN (newA 7 9 3 ([] : List (Int × Int)))), (zf189 17), (eN (newA ((6 + (a % ((3 : Nat) : Int)).toNat : Nat) : Int) ((8 + (b % ((5 : Nat) : Int)).toNat : Nat) : Int) ((4 + (c % ((5 : Nat) : Int)).toNat : Nat) : Int) lb)), (zf189 19), (eN (newA ((6 + (a % ((3 : Nat) : Int)).toNat : Nat) : Int) ((8 + (b % ((5 : Nat) : Int)).toNat : Nat) : Int) ((4 + (c % ((5 : Nat) : Int)).toNat : Nat) : Int) lb))] ++ (zs zf189 21 70 ++ [(eN (newA a b c lb)), (eN (newA a b c lb)), vT, vT, (eN (newA ((6 + (a % ((3 : Nat) : Int)).toNat : Nat) : Int) ((8 + (b % ((5 : Nat) : Int)).toNat : Nat) : Int) ((4 + (c % ((5 : Nat) : Int)).toNat : Nat) : Int) lb)), (eN (newA ((6 + (a % ((3 : Nat) : Int)).toNat : Nat) : Int) ((8 + (b % ((5 : Nat) : Int)).toNat : Nat) : Int) ((4 + (c % ((5 : Nat) : Int)).toNat : Nat) : Int) lb)), vT, vT, vT, (eN (newA 7 9 3 ([] : List (Int × Int))))] ++ (zs zf189 101 13)))) ?_
  refine wG (n_eql (a := (newA 7 9 3 ([] : List (Int × Int)))) (b := 0) rfl rfl (decide_eq_false (by rw [newA_no (by unfold fitsA; omega)]; decide))) ?_
  refine wG (d_move rfl) ?_
  refine wG (d_not rfl rfl) ?_
  refine wG (d_beql Try.underlying4 rfl rfl rfl) ?_
  refine wI (d_pick (b := true) (v := vT) rfl rfl) ?_
  refine wF ([(zf189 0), (zf189 1), (zf189 2), vT] ++ (zs zf189 4 8 ++ [(eN (newA a b c lb)), (zf189 13), (eN (newA a b c lb)), (zf189 15), (eN (newA 7 9 3 ([] : List (Int × Int)))), (zf189 17), (eN (newA ((6 + (a % ((3 : Nat) : Int)).toNat : Nat) : Int) ((8 + (b % ((5 : Nat) : Int)).toNat : Nat) : Int) ((4 + (c % ((5 : Nat) : Int)).toNat : Nat) : Int) lb)), (zf189 19), (eN (newA ((6 + (a % ((3 : Nat) : Int)).toNat : Nat) : Int) ((8 + (b % ((5 : Nat) : Int)).toNat : Nat) : Int) ((4 + (c % ((5 : Nat) : Int)).toNat : Nat) : Int) lb))] ++ (zs zf189 21 70 ++ [(eN (newA a b c lb)), (eN (newA a b c lb)), vT, vT, (eN (newA ((6 + (a % ((3 : Nat) : Int)).toNat : Nat) : Int) ((8 + (b % ((5 : Nat) : Int)).toNat : Nat) : Int) ((4 + (c % ((5 : Nat) : Int)).toNat : Nat) : Int) lb)), (eN (newA ((6 + (a % ((3 : Nat) : Int)).toNat : Nat) : Int) ((8 + (b % ((5 : Nat) : Int)).toNat : Nat) : Int) ((4 + (c % ((5 : Nat) : Int)).toNat : Nat) : Int) lb)), vT, vT, vT, (eN (newA 7 9 3 ([] : List (Int × Int)))), vF, vT, vF, vT, vT] ++ (zs zf189 106 8)))) ?_
  refine wI (d_move rfl) ?_
  refine wG (d_move rfl) ?_
  refine wG (d_not rfl rfl) ?_
  refine wG (d_move rfl) ?_
  refine wG (d_move rfl) ?_
  refine wF ([(zf189 0), (zf189 1), (zf189 2), vT] ++ (zs zf189 4 8 ++ [(eN (newA a b c lb)), (zf189 13), (eN (newA a b c lb)), (zf189 15), (eN (newA 7 9 3 ([] : List (Int × Int)))), (zf189 17), (eN (newA ((6 + (a % ((3 : Nat) : Int)).toNat : Nat) : Int) ((8 + (b % ((5 : Nat) : Int)).toNat : Nat) : Int) ((4 + (c % ((5 : Nat) : Int)).toNat : Nat) : Int) lb)), (zf189 19), (eN (newA ((6 + (a % ((3 : Nat) : Int)).toNat : Nat) : Int) ((8 + (b % ((5 : Nat) : Int)).toNat : Nat) : Int) ((4 + (c % ((5 : Nat) : Int)).toNat : Nat) : Int) lb))] ++ (zs zf189 21 70 ++ [(eN (newA a b c lb)), (eN (newA a b c lb)), vT, vT, (eN (newA ((6 + (a % ((3 : Nat) : Int)).toNat : Nat) : Int) ((8 + (b % ((5 : Nat) : Int)).toNat : Nat) : Int) ((4 + (c % ((5 : Nat) : Int)).toNat : Nat) : Int) lb)), (eN (newA ((6 + (a % ((3 : Nat) : Int)).toNat : Nat) : Int) ((8 + (b % ((5 : Nat) : Int)).toNat : Nat) : Int) ((4 + (c % ((5 : Nat) : Int)).toNat : Nat) : Int) lb)), vT, vT, vT, (eN (newA 7 9 3 ([] : List (Int × Int)))), vF, vT, vF, vT, vT, vT, vT, vF, vF, (eN (newA 7 9 3 ([] : List (Int × Int)))), (zf189 111), (zf189 112), (zf189 113)]))) ?_
  refine wG (n_eql (a := (newA 7 9 3 ([] : List (Int × Int)))) (b := 1) rfl rfl (decide_eq_true (newA_no (by unfold fitsA; omega)))) ?_
  refine wG (d_pick (b := false) (v := vT) rfl rfl) ?_
  refine wI (d_pick (b := true) (v := vT) rfl rfl) ?_
  refine wI (d_assign rfl) ?_
  refine wD (tN ?_)
  refine forget (fun zf190 => (zs zf190 0 8 ++ [vT] ++ (zs zf190 9 105))) kr (fun zf190 => ?_)
  refine wpIn_ret ?_
  refine leave0 (v := vT) (res1 Try.results3 rfl) ?_
  exact ⟨rfl, oW⟩
 exact absurd (Int.emod_lt_of_pos wh (show (0 : Int) < ((6 : Nat) : Int) by decide)) (by have := Int.emod_nonneg wh (show ((6 : Nat) : Int) ≠ 0 by decide); omega)
end Go.Proofs.YtpamdlnobekihaaF
