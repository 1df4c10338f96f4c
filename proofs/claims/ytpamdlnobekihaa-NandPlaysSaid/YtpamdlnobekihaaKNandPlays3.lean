/- Part of the proof of the law NandPlays, for all its inputs. -/
import Derived.Test.YtpamdlnobekihaaKNandPlays2
set_option linter.unusedVariables false
set_option linter.unusedSimpArgs false
set_option maxRecDepth 20000
set_option maxHeartbeats 4000000
namespace Go.Proofs.YtpamdlnobekihaaF
open Go Shelf YtpamdlnobekihaaS Ram
abbrev ag3 (a b c : Nat) : Value := .agg #[eN a, eN b, eN c]
theorem erase_ok (L : NL) (s : NS) {X : Nat → Prop} (W : World) (hN : Nd L s X W) (d b : Int) (hX : ∀ k, X k → k < W.heap.size) :
    CW Try.prog 23 #[(ptr L.bN 0), (eI d), (eI b)] W (Rt (fun u w => u = eN (s.eraseR d b) ∧ Nd L (s.erase d b) X w ∧ Only L.S W w)) := by
 have oW : Only L.S W W := Only.refl _ _
 refine enter (al := [(ptr L.bN 0), (eI d), (eI b)]) (k := 75) (l := ([(ptr L.bN 0), (eI d), (eI b)] ++ (us 75))) Try.func23 rfl Try.ntmps23 rfl rfl ?_
 refine wQ (pL ?_)
 refine wO (d_box rfl rfl) ?_
 rintro _ w11 ⟨nbx, rfl, g12, a13, o14⟩
 have g_oW_nbx : W.heap.size ≤ nbx := Nat.le_trans oW.size g12
 replace hN := hN.new o14 g12
 replace oW := oW.tail0 o14
 refine wI (d_assign rfl) ?_
 refine wD (tN (wQ (wQ ?_)))
 by_cases k0 : (s.there d b) = true
 ·
  obtain ⟨hd0, hd1, hb0, hb1⟩ := NS.there_of k0
  obtain ⟨dn, rfl⟩ := Int.eq_ofNat_of_zero_le hd0
  replace hd1 : dn < s.gD := Int.ofNat_lt.1 hd1
  refine wp_eq (l' := ([(ptr L.bN 0), (eN dn), (eI b), (ptr nbx 0), undef, undef, (eN 0)] ++ (us 71))) rfl ?_
  obtain ⟨bn, rfl⟩ := Int.eq_ofNat_of_zero_le hb0
  replace hb1 : bn < s.gB := Int.ofNat_lt.1 hb1
  refine wp_eq (l' := ([(ptr L.bN 0), (eN dn), (eN bn), (ptr nbx 0), undef, undef, (eN 0)] ++ (us 71))) rfl ?_
  by_cases k1 : (s.isBad ↑dn ↑bn) = true
  ·
   refine drawnT (O := (Or1 nbx (Ors L.S No))) (n := 14) 12 [0, 0, 0, 0, 14, 30, 62, 62, 62, 510, 1022, 2046, 4095, 8191] [(0, 11), (1, 12), (2, 13), (3, 14), (4, 15), (5, 16), (6, 17), (7, 18), (8, 19), (9, 20), (10, 21), (11, 22), (12, 23), (13, 7)] [(0, 11), (1, 12), (2, 13), (3, 14), (4, 15), (5, 16), (6, 17), (7, 18), (8, 19), (9, 20), (10, 21), (11, 22)] [0, 1, 2, 3, 4, 5, 6, 7, 8, 9, 10, 11] [] (fun i_ => ([RF.is (Or1 nbx (Ors L.S No)) (ptr L.bN 0), RF.is (Or1 nbx (Ors L.S No)) (ptr L.bN 0), RF.is (Or1 nbx (Ors L.S No)) (eN dn), RF.is (Or1 nbx (Ors L.S No)) (eN bn), RF.is (Or1 nbx (Ors L.S No)) vT, RF.is (Or1 nbx (Ors L.S No)) vT, RF.is (Or1 nbx (Ors L.S No)) (ptr L.bN 0), RF.is (Or1 nbx (Ors L.S No)) (eN dn), RF.is (Or1 nbx (Ors L.S No)) (eN bn), RF.is (Or1 nbx (Ors L.S No)) vT, RF.is (Or1 nbx (Ors L.S No)) vF, RF.is (Or1 nbx (Ors L.S No)) vF] : List (RF (Or1 nbx (Ors L.S No)))).getD i_ (RF.any (Or1 nbx (Ors L.S No)))) (fun _ w_ => Arr 27 nbx [(ptr L.bN 0)] w_ ∧ Nd L s (Or1 nbx X) w_) (fun v15 => ([(ptr L.bN 0), (eN dn), (eN bn), (ptr nbx 0), undef, undef, (eN 0), (v15 13), undef, undef, undef, (v15 0), (v15 1), (v15 2), (v15 3), (v15 4), (v15 5), (v15 6), (v15 7), (v15 8), (v15 9), (v15 10), (v15 11), (v15 12)] ++ (us 54))) (fun v15 => ([(ptr L.bN 0), (eN dn), (eN bn), (ptr nbx 0), undef, undef, (eN 0), undef, undef, undef, undef, (v15 0), (v15 1), (v15 2), (v15 3), (v15 4), (v15 5), (v15 6), (v15 7), (v15 8), (v15 9), (v15 10), (v15 11)] ++ (us 55))) s_mx kr rfl (by decide) (by rfl) kr kr kr (by rfl) (fun v_ => by kernel_rfl) (fun v_ => by kernel_rfl) (fun _ => fun w_ w2_ h ho => by obtain ⟨r_a13, r_hN⟩ := h; exact ⟨r_a13.step0 ho, r_hN.step0 ho⟩) ⟨a13, hN⟩ ?_ ?_ ?_
   ·
    refine ls_cons ?_ ?_
    ·
     intro v15 lo hi w_ k_ hO hd _ _ hk_ _ hR hold
     obtain ⟨r_a13, r_hN⟩ := hR
     clear hd hold
     refine ⟨_, rfl, gd rfl ?_⟩
     exact Does.is (d_load (v := (ptr L.bN 0)) ⟨_, Try.underlying27, rfl⟩ rfl r_a13 rfl)
    refine ls_cons ?_ ?_
    ·
     intro v15 lo hi w_ k_ hO hd _ _ hk_ _ hR hold
     obtain ⟨r_a13, r_hN⟩ := hR
     clear hd hold
     refine ⟨_, rfl, gd rfl ?_⟩
     exact Does.is (d_load (v := (ptr L.bN 0)) ⟨_, Try.underlying27, rfl⟩ rfl r_a13 rfl)
    refine ls_cons ?_ ?_
    ·
     intro v15 lo hi w_ k_ hO hd _ _ hk_ _ hR hold
     obtain ⟨r_a13, r_hN⟩ := hR
     clear hd hold
     refine ⟨_, rfl, gd rfl ?_⟩
     exact Does.is (d_move rfl)
    refine ls_cons ?_ ?_
    ·
     intro v15 lo hi w_ k_ hO hd _ _ hk_ _ hR hold
     obtain ⟨r_a13, r_hN⟩ := hR
     clear hd hold
     refine ⟨_, rfl, gd rfl ?_⟩
     exact Does.is (d_move rfl)
    refine ls_cons ?_ ?_
    ·
     intro v15 lo hi w_ k_ hO hd _ _ hk_ _ hR hold
     obtain ⟨r_a13, r_hN⟩ := hR
     have e1 : v15 1 = (ptr L.bN 0) := hd 1 kr
     have e2 : v15 2 = (eN dn) := hd 2 kr
     have e3 : v15 3 = (eN bn) := hd 3 kr
     clear hd hold
     refine ⟨_, rfl, gd rfl ?_⟩
     exact d_call (xl := [.tmp 12, .tmp 13, .tmp 14]) (al := [(ptr L.bN 0), (eN dn), (eN bn)]) Try.func40 kr rfl (show ([(v15 1), (v15 2), (v15 3)] : List Value) = [(ptr L.bN 0), (eN dn), (eN bn)] from by rw [e1, e2, e3]) rfl (there_ok L s _ r_hN (r := true) (dn : Int) (bn : Int) k0)
    refine ls_cons ?_ ?_
    ·
     intro v15 lo hi w_ k_ hO hd _ _ hk_ _ hR hold
     obtain ⟨r_a13, r_hN⟩ := hR
     have e4 : v15 4 = vT := hd 4 kr
     clear hd hold
     refine ⟨_, rfl, gd rfl ?_⟩
     exact Does.is (d_move (v := vT) e4)
    refine ls_cons ?_ ?_
    ·
     intro v15 lo hi w_ k_ hO hd _ _ hk_ _ hR hold
     obtain ⟨r_a13, r_hN⟩ := hR
     have e5 : v15 5 = vT := hd 5 kr
     clear hd hold
     refine ⟨_, rfl, gd_on rfl rfl rfl (nb rfl) e5 ?_⟩
     exact Does.is (d_load (v := (ptr L.bN 0)) ⟨_, Try.underlying27, rfl⟩ rfl r_a13 rfl)
    refine ls_cons ?_ ?_
    ·
     intro v15 lo hi w_ k_ hO hd _ _ hk_ _ hR hold
     obtain ⟨r_a13, r_hN⟩ := hR
     have e5 : v15 5 = vT := hd 5 kr
     clear hd hold
     refine ⟨_, rfl, gd_on rfl rfl rfl (nb rfl) e5 ?_⟩
     exact Does.is (d_move rfl)
    refine ls_cons ?_ ?_
    ·
     intro v15 lo hi w_ k_ hO hd _ _ hk_ _ hR hold
     obtain ⟨r_a13, r_hN⟩ := hR
     have e5 : v15 5 = vT := hd 5 kr
     clear hd hold
     refine ⟨_, rfl, gd_on rfl rfl rfl (nb rfl) e5 ?_⟩
     exact Does.is (d_move rfl)
    refine ls_cons ?_ ?_
    ·
     intro v15 lo hi w_ k_ hO hd _ _ hk_ _ hR hold
     obtain ⟨r_a13, r_hN⟩ := hR
     have e5 : v15 5 = vT := hd 5 kr
     have e6 : v15 6 = (ptr L.bN 0) := hd 6 kr
     have e7 : v15 7 = (eN dn) := hd 7 kr
     have e8 : v15 8 = (eN bn) := hd 8 kr
     clear hd hold
     refine ⟨_, rfl, gd_on rfl rfl rfl (nb rfl) e5 ?_⟩
     exact d_call (xl := [.tmp 17, .tmp 18, .tmp 19]) (al := [(ptr L.bN 0), (eN dn), (eN bn)]) Try.func27 kr rfl (show ([(v15 6), (v15 7), (v15 8)] : List Value) = [(ptr L.bN 0), (eN dn), (eN bn)] from by rw [e6, e7, e8]) rfl (isBad_ok L s _ r_hN (r := true) (dn : Int) (bn : Int) k1)
    refine ls_cons ?_ ?_
    ·
     intro v15 lo hi w_ k_ hO hd _ _ hk_ _ hR hold
     obtain ⟨r_a13, r_hN⟩ := hR
     have e5 : v15 5 = vT := hd 5 kr
     have e9 : v15 9 = vT := hd 9 kr
     clear hd hold
     refine ⟨_, rfl, gd_on rfl rfl rfl (nb rfl) e5 ?_⟩
     exact Does.is (d_not e9 rfl)
    refine ls_cons ?_ ?_
    ·
     intro v15 lo hi w_ k_ hO hd _ _ hk_ _ hR hold
     obtain ⟨r_a13, r_hN⟩ := hR
     have e10 : v15 10 = vF := hd 10 kr
     have e5 : v15 5 = vT := hd 5 kr
     clear hd hold
     refine ⟨_, rfl, gd rfl ?_⟩
     exact Does.is (d_pick (b := true) (v := vF) e5 e10)
    exact ls_nil
   ·
    exact ms_nil
   intro v15 lo_ hi_ w16 o17 hd iv_ hR
   have e0 : v15 0 = (ptr L.bN 0) := hd 0 (by decide)
   have e1 : v15 1 = (ptr L.bN 0) := hd 1 (by decide)
   have e2 : v15 2 = (eN dn) := hd 2 (by decide)
   have e3 : v15 3 = (eN bn) := hd 3 (by decide)
   have e4 : v15 4 = vT := hd 4 (by decide)
   have e5 : v15 5 = vT := hd 5 (by decide)
   have e6 : v15 6 = (ptr L.bN 0) := hd 6 (by decide)
   have e7 : v15 7 = (eN dn) := hd 7 (by decide)
   have e8 : v15 8 = (eN bn) := hd 8 (by decide)
   have e9 : v15 9 = vT := hd 9 (by decide)
   have e10 : v15 10 = vF := hd 10 (by decide)
   have e11 : v15 11 = vF := hd 11 (by decide)
   clear hd iv_ lo_ hi_
   refine wpL.flat ([(ptr L.bN 0), (eN dn), (eN bn), (ptr nbx 0), undef, undef, (eN 0), undef, undef, undef, undef, (ptr L.bN 0), (ptr L.bN 0), (eN dn), (eN bn), vT, vT, (ptr L.bN 0), (eN dn), (eN bn), vT, vF, vF] ++ (us 55)) (by rw [e0, e1, e2, e3, e4, e5, e6, e7, e8, e9, e10, e11] <;> rfl) ?_
   clear e0 e1 e2 e3 e4 e5 e6 e7 e8 e9 e10 e11
   obtain ⟨xr_a13, xr_hN⟩ := hR
   replace a13 : Arr 27 nbx [(ptr L.bN 0)] w16 := xr_a13
   replace hN := xr_hN
   clear xr_a13 xr_hN
   replace oW := oW.tail o17 (tl_new g_oW_nbx (tl_sin (fun k h => h) tl_no))
   refine wO (d_call (xl := [.tmp 11, .tmp 22]) (al := [(ptr L.bN 0), vF]) Try.func47 kr rfl rfl rfl (ask_ok L s _ hN (g := (s.eraseOk ↑dn ↑bn)) false (by simp [NS.eraseOk, *]))) ?_
   rintro _ w18 ⟨rfl, a20, o19⟩
   replace a13 := a13.step o19 (hN.dis _ in1)
   replace oW := oW.tail o19 (fun k _ e => (fun k h => h) k e)
   replace hN := a20
   refine wI (d_assign rfl) ?_
   refine wF ([(ptr L.bN 0), (eN dn), (eN bn), (ptr nbx 0), undef, undef, (eN 0), (eN (s.askR (s.eraseOk ↑dn ↑bn))), undef, undef, undef, (ptr L.bN 0), (ptr L.bN 0), (eN dn), (eN bn), vT, vT, (ptr L.bN 0), (eN dn), (eN bn), vT, vF, vF, (eN (s.askR (s.eraseOk ↑dn ↑bn)))] ++ (us 54)) ?_
   refine wD (tN (wQ (pL ?_)))
   refine wI (d_move rfl) ?_
   refine wI (n_neq (a := (s.askR (s.eraseOk ↑dn ↑bn))) (b := 0) rfl rfl rfl) ?_
   refine wD (tN ?_)
   refine cond_un rfl (fun c0 => ?_) (fun c0 => ?_)
   ·
    refine wQ (pL ?_)
    refine wI (d_move rfl) ?_
    refine wI (d_assign rfl) ?_
    refine wD (tN ?_)
    refine wpIn_ret ?_
    refine then_r ?_
    refine leave0 (v := (eN (s.askR (s.eraseOk ↑dn ↑bn)))) (res1 Try.results23 rfl) ?_
    obtain ⟨e1_, e2_⟩ := NS.erase_no c0; exact ⟨congrArg eN e2_.symm, e1_ ▸ (hN.less (xx_skip xx_id)), oW⟩
   exact absurd c0 (NS.askR_no (by simp [NS.eraseOk, *]))
  refine drawnT (O := (Or1 nbx (Ors L.S No))) (n := 14) 12 [0, 0, 0, 0, 14, 30, 62, 62, 62, 510, 1022, 2046, 4095, 8191] [(0, 11), (1, 12), (2, 13), (3, 14), (4, 15), (5, 16), (6, 17), (7, 18), (8, 19), (9, 20), (10, 21), (11, 22), (12, 23), (13, 7)] [(0, 11), (1, 12), (2, 13), (3, 14), (4, 15), (5, 16), (6, 17), (7, 18), (8, 19), (9, 20), (10, 21), (11, 22)] [0, 1, 2, 3, 4, 5, 6, 7, 8, 9, 10, 11] [] (fun i_ => ([RF.is (Or1 nbx (Ors L.S No)) (ptr L.bN 0), RF.is (Or1 nbx (Ors L.S No)) (ptr L.bN 0), RF.is (Or1 nbx (Ors L.S No)) (eN dn), RF.is (Or1 nbx (Ors L.S No)) (eN bn), RF.is (Or1 nbx (Ors L.S No)) vT, RF.is (Or1 nbx (Ors L.S No)) vT, RF.is (Or1 nbx (Ors L.S No)) (ptr L.bN 0), RF.is (Or1 nbx (Ors L.S No)) (eN dn), RF.is (Or1 nbx (Ors L.S No)) (eN bn), RF.is (Or1 nbx (Ors L.S No)) vF, RF.is (Or1 nbx (Ors L.S No)) vT, RF.is (Or1 nbx (Ors L.S No)) vT] : List (RF (Or1 nbx (Ors L.S No)))).getD i_ (RF.any (Or1 nbx (Ors L.S No)))) (fun _ w_ => Arr 27 nbx [(ptr L.bN 0)] w_ ∧ Nd L s (Or1 nbx X) w_) (fun v21 => ([(ptr L.bN 0), (eN dn), (eN bn), (ptr nbx 0), undef, undef, (eN 0), (v21 13), undef, undef, undef, (v21 0), (v21 1), (v21 2), (v21 3), (v21 4), (v21 5), (v21 6), (v21 7), (v21 8), (v21 9), (v21 10), (v21 11), (v21 12)] ++ (us 54))) (fun v21 => ([(ptr L.bN 0), (eN dn), (eN bn), (ptr nbx 0), undef, undef, (eN 0), undef, undef, undef, undef, (v21 0), (v21 1), (v21 2), (v21 3), (v21 4), (v21 5), (v21 6), (v21 7), (v21 8), (v21 9), (v21 10), (v21 11)] ++ (us 55))) s_mx kr rfl (by decide) (by rfl) kr kr kr (by rfl) (fun v_ => by kernel_rfl) (fun v_ => by kernel_rfl) (fun _ => fun w_ w2_ h ho => by obtain ⟨r_a13, r_hN⟩ := h; exact ⟨r_a13.step0 ho, r_hN.step0 ho⟩) ⟨a13, hN⟩ ?_ ?_ ?_
  ·
   refine ls_cons ?_ ?_
   ·
    intro v21 lo hi w_ k_ hO hd _ _ hk_ _ hR hold
    obtain ⟨r_a13, r_hN⟩ := hR
    clear hd hold
    refine ⟨_, rfl, gd rfl ?_⟩
    exact Does.is (d_load (v := (ptr L.bN 0)) ⟨_, Try.underlying27, rfl⟩ rfl r_a13 rfl)
   refine ls_cons ?_ ?_
   ·
    intro v21 lo hi w_ k_ hO hd _ _ hk_ _ hR hold
    obtain ⟨r_a13, r_hN⟩ := hR
    clear hd hold
    refine ⟨_, rfl, gd rfl ?_⟩
    exact Does.is (d_load (v := (ptr L.bN 0)) ⟨_, Try.underlying27, rfl⟩ rfl r_a13 rfl)
   refine ls_cons ?_ ?_
   ·
    intro v21 lo hi w_ k_ hO hd _ _ hk_ _ hR hold
    obtain ⟨r_a13, r_hN⟩ := hR
    clear hd hold
    refine ⟨_, rfl, gd rfl ?_⟩
    exact Does.is (d_move rfl)
   refine ls_cons ?_ ?_
   ·
    intro v21 lo hi w_ k_ hO hd _ _ hk_ _ hR hold
    obtain ⟨r_a13, r_hN⟩ := hR
    clear hd hold
    refine ⟨_, rfl, gd rfl ?_⟩
    exact Does.is (d_move rfl)
   refine ls_cons ?_ ?_
   ·
    intro v21 lo hi w_ k_ hO hd _ _ hk_ _ hR hold
    obtain ⟨r_a13, r_hN⟩ := hR
    have e1 : v21 1 = (ptr L.bN 0) := hd 1 kr
    have e2 : v21 2 = (eN dn) := hd 2 kr
    have e3 : v21 3 = (eN bn) := hd 3 kr
    clear hd hold
    refine ⟨_, rfl, gd rfl ?_⟩
    exact d_call (xl := [.tmp 12, .tmp 13, .tmp 14]) (al := [(ptr L.bN 0), (eN dn), (eN bn)]) Try.func40 kr rfl (show ([(v21 1), (v21 2), (v21 3)] : List Value) = [(ptr L.bN 0), (eN dn), (eN bn)] from by rw [e1, e2, e3]) rfl (there_ok L s _ r_hN (r := true) (dn : Int) (bn : Int) k0)
   refine ls_cons ?_ ?_
   ·
    intro v21 lo hi w_ k_ hO hd _ _ hk_ _ hR hold
    obtain ⟨r_a13, r_hN⟩ := hR
    have e4 : v21 4 = vT := hd 4 kr
    clear hd hold
    refine ⟨_, rfl, gd rfl ?_⟩
    exact Does.is (d_move (v := vT) e4)
   refine ls_cons ?_ ?_
   ·
    intro v21 lo hi w_ k_ hO hd _ _ hk_ _ hR hold
    obtain ⟨r_a13, r_hN⟩ := hR
    have e5 : v21 5 = vT := hd 5 kr
    clear hd hold
    refine ⟨_, rfl, gd_on rfl rfl rfl (nb rfl) e5 ?_⟩
    exact Does.is (d_load (v := (ptr L.bN 0)) ⟨_, Try.underlying27, rfl⟩ rfl r_a13 rfl)
   refine ls_cons ?_ ?_
   ·
    intro v21 lo hi w_ k_ hO hd _ _ hk_ _ hR hold
    obtain ⟨r_a13, r_hN⟩ := hR
    have e5 : v21 5 = vT := hd 5 kr
    clear hd hold
    refine ⟨_, rfl, gd_on rfl rfl rfl (nb rfl) e5 ?_⟩
    exact Does.is (d_move rfl)
   refine ls_cons ?_ ?_
   ·
    intro v21 lo hi w_ k_ hO hd _ _ hk_ _ hR hold
    obtain ⟨r_a13, r_hN⟩ := hR
    have e5 : v21 5 = vT := hd 5 kr
    clear hd hold
    refine ⟨_, rfl, gd_on rfl rfl rfl (nb rfl) e5 ?_⟩
    exact Does.is (d_move rfl)
   refine ls_cons ?_ ?_
   ·
    intro v21 lo hi w_ k_ hO hd _ _ hk_ _ hR hold
    obtain ⟨r_a13, r_hN⟩ := hR
    have e5 : v21 5 = vT := hd 5 kr
    have e6 : v21 6 = (ptr L.bN 0) := hd 6 kr
    have e7 : v21 7 = (eN dn) := hd 7 kr
    have e8 : v21 8 = (eN bn) := hd 8 kr
    clear hd hold
    refine ⟨_, rfl, gd_on rfl rfl rfl (nb rfl) e5 ?_⟩
    exact d_call (xl := [.tmp 17, .tmp 18, .tmp 19]) (al := [(ptr L.bN 0), (eN dn), (eN bn)]) Try.func27 kr rfl (show ([(v21 6), (v21 7), (v21 8)] : List Value) = [(ptr L.bN 0), (eN dn), (eN bn)] from by rw [e6, e7, e8]) rfl (isBad_ok L s _ r_hN (r := false) (dn : Int) (bn : Int) (Bool.eq_false_iff.2 k1))
   refine ls_cons ?_ ?_
   ·
    intro v21 lo hi w_ k_ hO hd _ _ hk_ _ hR hold
    obtain ⟨r_a13, r_hN⟩ := hR
    have e5 : v21 5 = vT := hd 5 kr
    have e9 : v21 9 = vF := hd 9 kr
    clear hd hold
    refine ⟨_, rfl, gd_on rfl rfl rfl (nb rfl) e5 ?_⟩
    exact Does.is (d_not e9 rfl)
   refine ls_cons ?_ ?_
   ·
    intro v21 lo hi w_ k_ hO hd _ _ hk_ _ hR hold
    obtain ⟨r_a13, r_hN⟩ := hR
    have e10 : v21 10 = vT := hd 10 kr
    have e5 : v21 5 = vT := hd 5 kr
    clear hd hold
    refine ⟨_, rfl, gd rfl ?_⟩
    exact Does.is (d_pick (b := true) (v := vT) e5 e10)
   exact ls_nil
  ·
   exact ms_nil
  intro v21 lo_ hi_ w22 o23 hd iv_ hR
  have e0 : v21 0 = (ptr L.bN 0) := hd 0 (by decide)
  have e1 : v21 1 = (ptr L.bN 0) := hd 1 (by decide)
  have e2 : v21 2 = (eN dn) := hd 2 (by decide)
  have e3 : v21 3 = (eN bn) := hd 3 (by decide)
  have e4 : v21 4 = vT := hd 4 (by decide)
  have e5 : v21 5 = vT := hd 5 (by decide)
  have e6 : v21 6 = (ptr L.bN 0) := hd 6 (by decide)
  have e7 : v21 7 = (eN dn) := hd 7 (by decide)
  have e8 : v21 8 = (eN bn) := hd 8 (by decide)
  have e9 : v21 9 = vF := hd 9 (by decide)
  have e10 : v21 10 = vT := hd 10 (by decide)
  have e11 : v21 11 = vT := hd 11 (by decide)
  clear hd iv_ lo_ hi_
  refine wpL.flat ([(ptr L.bN 0), (eN dn), (eN bn), (ptr nbx 0), undef, undef, (eN 0), undef, undef, undef, undef, (ptr L.bN 0), (ptr L.bN 0), (eN dn), (eN bn), vT, vT, (ptr L.bN 0), (eN dn), (eN bn), vF, vT, vT] ++ (us 55)) (by rw [e0, e1, e2, e3, e4, e5, e6, e7, e8, e9, e10, e11] <;> rfl) ?_
  clear e0 e1 e2 e3 e4 e5 e6 e7 e8 e9 e10 e11
  obtain ⟨xr_a13, xr_hN⟩ := hR
  replace a13 : Arr 27 nbx [(ptr L.bN 0)] w22 := xr_a13
  replace hN := xr_hN
  clear xr_a13 xr_hN
  replace oW := oW.tail o23 (tl_new g_oW_nbx (tl_sin (fun k h => h) tl_no))
  refine wO (d_call (xl := [.tmp 11, .tmp 22]) (al := [(ptr L.bN 0), vT]) Try.func47 kr rfl rfl rfl (ask_ok L s _ hN (g := (s.eraseOk ↑dn ↑bn)) true (by simp [NS.eraseOk, *]))) ?_
  rintro _ w24 ⟨rfl, a26, o25⟩
  replace a13 := a13.step o25 (hN.dis _ in1)
  replace oW := oW.tail o25 (fun k _ e => (fun k h => h) k e)
  replace hN := a26
  refine wI (d_assign rfl) ?_
  refine wF ([(ptr L.bN 0), (eN dn), (eN bn), (ptr nbx 0), undef, undef, (eN 0), (eN (s.askR (s.eraseOk ↑dn ↑bn))), undef, undef, undef, (ptr L.bN 0), (ptr L.bN 0), (eN dn), (eN bn), vT, vT, (ptr L.bN 0), (eN dn), (eN bn), vF, vT, vT, (eN (s.askR (s.eraseOk ↑dn ↑bn)))] ++ (us 54)) ?_
  refine wD (tN (wQ (pL ?_)))
  refine wI (d_move rfl) ?_
  refine wI (n_neq (a := (s.askR (s.eraseOk ↑dn ↑bn))) (b := 0) rfl rfl rfl) ?_
  refine wD (tN ?_)
  refine cond_un rfl (fun c0 => ?_) (fun c0 => ?_)
  ·
   refine wQ (pL ?_)
   refine wI (d_move rfl) ?_
   refine wI (d_assign rfl) ?_
   refine wD (tN ?_)
   refine wpIn_ret ?_
   refine then_r ?_
   refine leave0 (v := (eN (s.askR (s.eraseOk ↑dn ↑bn)))) (res1 Try.results23 rfl) ?_
   obtain ⟨e1_, e2_⟩ := NS.erase_no c0; exact ⟨congrArg eN e2_.symm, e1_ ▸ (hN.less (xx_skip xx_id)), oW⟩
  refine wK (tN (wQ (pL ?_)))
  refine wI (d_load (v := (ptr L.bN 0)) ⟨_, Try.underlying27, rfl⟩ rfl a13 rfl) ?_
  refine wI (d_nilCheck (b := L.bN) (o := 0) rfl) ?_
  refine wI (d_fieldAddr (j := 11) Try.underlying73 rfl s_ti71 (by decide) rfl rfl) ?_
  refine wI (nd_ld (v := L.ub) hN ⟨_, Try.underlying71, rfl⟩ rfl (fun _ => rfl)) ?_
  refine wI (d_move rfl) ?_
  refine wI (nd_ixU (i := dn) hN Try.underlying71 s_ti75 rfl (show _ = Value.int _ (dn : Int) from rfl) hd1) ?_
  refine wI (nd_ldU (i := dn) hN ⟨_, Try.underlying75, rfl⟩ rfl hd1) ?_
  refine wF ([(ptr L.bN 0), (eN dn), (eN bn), (ptr nbx 0), undef, undef, (eN 0), (eN (s.askR (s.eraseOk ↑dn ↑bn))), undef, undef, undef, (ptr L.bN 0), (ptr L.bN 0), (eN dn), (eN bn), vT, vT, (ptr L.bN 0), (eN dn), (eN bn), vF, vT, vT, (eN (s.askR (s.eraseOk ↑dn ↑bn))), (eN (s.askR (s.eraseOk ↑dn ↑bn))), (Value.bool (!decide ((s.askR (s.eraseOk ↑dn ↑bn)) = 0))), undef, (ptr L.bN 0), (ptr L.bN 0), (ptr L.bN 11), L.ub, (eN dn), (ixp L.ub dn), (sli (L.bk.getD dn 0) 0 ((s.ask (s.eraseOk ↑dn ↑bn)).gB) ((s.ask (s.eraseOk ↑dn ↑bn)).gB))] ++ (us 44)) ?_
  refine wI (d_move rfl) ?_
  refine wI (d_index (b := (L.bk.getD dn 0)) (o := 0) (n := ((s.ask (s.eraseOk ↑dn ↑bn)).gB)) (c := ((s.ask (s.eraseOk ↑dn ↑bn)).gB)) (j := (bn * 3)) Try.underlying75 s_ti77 rfl (show _ = Value.int _ (bn : Int) from rfl) oo (Int.ofNat_lt.2 hb1) (by simp)) ?_
  refine wI (d_fieldAddr (j := bn * 3 + 1) Try.underlying77 rfl s_ti3 (by decide) rfl rfl) ?_
  refine wI (nd_ldS (i := dn) (j := bn) (f := 1) hN ⟨_, Try.underlying3, rfl⟩ rfl hd1 hb1 (by decide) rfl) ?_
  refine wI (d_add (k := .i64) (m := ((s.ask (s.eraseOk ↑dn ↑bn)).bl dn bn).er) (n := 1) rfl rfl rfl) ?_
  refine wI (d_index (b := (L.bk.getD dn 0)) (o := 0) (n := ((s.ask (s.eraseOk ↑dn ↑bn)).gB)) (c := ((s.ask (s.eraseOk ↑dn ↑bn)).gB)) (j := (bn * 3)) Try.underlying75 s_ti77 rfl (show _ = Value.int _ (bn : Int) from rfl) oo (Int.ofNat_lt.2 hb1) (by simp)) ?_
  refine wI (d_fieldAddr (j := bn * 3 + 1) Try.underlying77 rfl s_ti3 (by decide) rfl rfl) ?_
  refine wO (nd_stS (i := dn) (j := bn) (f := 1) (x' := { (s.ask (s.eraseOk ↑dn ↑bn)).bl dn bn with er := IntKind.i64.wrap (((s.ask (s.eraseOk ↑dn ↑bn)).bl dn bn).er + 1) }) hN s_ti3 rfl rfl rfl hd1 hb1 (by decide) rfl (hN.ok.nx _ _)) ?_
  rintro _ w27 ⟨a28, o29⟩
  replace a13 := a13.step o29 (hN.dis _ in1)
  replace oW := oW.tail o29 (fun k _ e => (fun k h => h) k e)
  replace hN := a28
  refine wD (tN (wQ (pL ?_)))
  refine wI (d_load (v := (ptr L.bN 0)) ⟨_, Try.underlying27, rfl⟩ rfl a13 rfl) ?_
  refine wF ([(ptr L.bN 0), (eN dn), (eN bn), (ptr nbx 0), undef, undef, (eN 0), (eN (s.askR (s.eraseOk ↑dn ↑bn))), undef, undef, undef, (ptr L.bN 0), (ptr L.bN 0), (eN dn), (eN bn), vT, vT, (ptr L.bN 0), (eN dn), (eN bn), vF, vT, vT, (eN (s.askR (s.eraseOk ↑dn ↑bn))), (eN (s.askR (s.eraseOk ↑dn ↑bn))), (Value.bool (!decide ((s.askR (s.eraseOk ↑dn ↑bn)) = 0))), undef, (ptr L.bN 0), (ptr L.bN 0), (ptr L.bN 11), L.ub, (eN dn), (ixp L.ub dn), (sli (L.bk.getD dn 0) 0 ((s.ask (s.eraseOk ↑dn ↑bn)).gB) ((s.ask (s.eraseOk ↑dn ↑bn)).gB)), (eN bn), (ptr (L.bk.getD dn 0) (bn * 3)), (ptr (L.bk.getD dn 0) (bn * 3 + 1)), (eI (((s.ask (s.eraseOk ↑dn ↑bn)).bl dn bn).er)), (eI (IntKind.i64.wrap (((s.ask (s.eraseOk ↑dn ↑bn)).bl dn bn).er + 1))), (ptr (L.bk.getD dn 0) (bn * 3)), (ptr (L.bk.getD dn 0) (bn * 3 + 1)), (ptr L.bN 0)] ++ (us 36)) ?_
  refine wO (d_call (xl := [.tmp 41]) (al := [(ptr L.bN 0)]) Try.func49 kr rfl rfl rfl (goes_ok L ((s.ask (s.eraseOk ↑dn ↑bn)).setB dn bn { (s.ask (s.eraseOk ↑dn ↑bn)).bl dn bn with er := IntKind.i64.wrap (((s.ask (s.eraseOk ↑dn ↑bn)).bl dn bn).er + 1) }) _ hN)) ?_
  rintro _ w30 ⟨rfl, a32, o31⟩
  replace a13 := a13.step o31 (hN.dis _ in1)
  replace oW := oW.tail o31 (fun k _ e => (fun k h => h) k e)
  replace hN := a32
  refine wO (d_alloc s_ti4 rfl) ?_
  rintro _ w33 ⟨tb, rfl, g34, a35, o36⟩
  have n_nbx_tb : nbx ≠ tb := a13.ne g34
  have g_oW_tb : W.heap.size ≤ tb := Nat.le_trans oW.size g34
  replace hN := hN.new o36 g34
  replace a13 := a13.step0 o36
  replace oW := oW.tail0 o36
  refine wO (d_store s_ti4 rfl rfl rfl a35 (nb rfl) rfl) ?_
  rintro _ w37 ⟨a38, o39⟩
  replace hN := hN.stepb o39 in1
  replace a13 := a13.step o39 (fun e => absurd e n_nbx_tb)
  replace oW := oW.tailb o39 g_oW_tb
  refine wD (tN (wQ (wQ (pL ?_))))
  refine wI (d_load (v := (ptr L.bN 0)) ⟨_, Try.underlying27, rfl⟩ rfl a13 rfl) ?_
  refine wI (d_nilCheck (b := L.bN) (o := 0) rfl) ?_
  refine wI (d_fieldAddr (j := 3) Try.underlying73 rfl s_ti65 (by decide) rfl rfl) ?_
  refine wI (nd_ldAg (vs := [(eN ((((s.ask (s.eraseOk ↑dn ↑bn)).setB dn bn { (s.ask (s.eraseOk ↑dn ↑bn)).bl dn bn with er := IntKind.i64.wrap (((s.ask (s.eraseOk ↑dn ↑bn)).bl dn bn).er + 1) }).goes).gD)), (eN ((((s.ask (s.eraseOk ↑dn ↑bn)).setB dn bn { (s.ask (s.eraseOk ↑dn ↑bn)).bl dn bn with er := IntKind.i64.wrap (((s.ask (s.eraseOk ↑dn ↑bn)).bl dn bn).er + 1) }).goes).gB)), (eN ((((s.ask (s.eraseOk ↑dn ↑bn)).setB dn bn { (s.ask (s.eraseOk ↑dn ↑bn)).bl dn bn with er := IntKind.i64.wrap (((s.ask (s.eraseOk ↑dn ↑bn)).bl dn bn).er + 1) }).goes).gP)), (sli L.bD 0 ((((s.ask (s.eraseOk ↑dn ↑bn)).setB dn bn { (s.ask (s.eraseOk ↑dn ↑bn)).bl dn bn with er := IntKind.i64.wrap (((s.ask (s.eraseOk ↑dn ↑bn)).bl dn bn).er + 1) }).goes).n) ((((s.ask (s.eraseOk ↑dn ↑bn)).setB dn bn { (s.ask (s.eraseOk ↑dn ↑bn)).bl dn bn with er := IntKind.i64.wrap (((s.ask (s.eraseOk ↑dn ↑bn)).bl dn bn).er + 1) }).goes).n))]) hN ⟨_, Try.underlying65, rfl⟩ s_ti65 rfl (fun _ => rfl) rfl) ?_
  refine wI (d_move rfl) ?_
  refine wI (d_move rfl) ?_
  refine wF ([(ptr L.bN 0), (eN dn), (eN bn), (ptr nbx 0), undef, undef, (eN 0), (eN (s.askR (s.eraseOk ↑dn ↑bn))), (ptr tb 0), undef, undef, (ptr L.bN 0), (ptr L.bN 0), (eN dn), (eN bn), vT, vT, (ptr L.bN 0), (eN dn), (eN bn), vF, vT, vT, (eN (s.askR (s.eraseOk ↑dn ↑bn))), (eN (s.askR (s.eraseOk ↑dn ↑bn))), (Value.bool (!decide ((s.askR (s.eraseOk ↑dn ↑bn)) = 0))), undef, (ptr L.bN 0), (ptr L.bN 0), (ptr L.bN 11), L.ub, (eN dn), (ixp L.ub dn), (sli (L.bk.getD dn 0) 0 ((s.ask (s.eraseOk ↑dn ↑bn)).gB) ((s.ask (s.eraseOk ↑dn ↑bn)).gB)), (eN bn), (ptr (L.bk.getD dn 0) (bn * 3)), (ptr (L.bk.getD dn 0) (bn * 3 + 1)), (eI (((s.ask (s.eraseOk ↑dn ↑bn)).bl dn bn).er)), (eI (IntKind.i64.wrap (((s.ask (s.eraseOk ↑dn ↑bn)).bl dn bn).er + 1))), (ptr (L.bk.getD dn 0) (bn * 3)), (ptr (L.bk.getD dn 0) (bn * 3 + 1)), (ptr L.bN 0), (Value.bool (((s.ask (s.eraseOk ↑dn ↑bn)).setB dn bn { (s.ask (s.eraseOk ↑dn ↑bn)).bl dn bn with er := IntKind.i64.wrap (((s.ask (s.eraseOk ↑dn ↑bn)).bl dn bn).er + 1) }).goesR)), (ptr L.bN 0), (ptr L.bN 0), (ptr L.bN 3), (Value.agg #[(eN ((((s.ask (s.eraseOk ↑dn ↑bn)).setB dn bn { (s.ask (s.eraseOk ↑dn ↑bn)).bl dn bn with er := IntKind.i64.wrap (((s.ask (s.eraseOk ↑dn ↑bn)).bl dn bn).er + 1) }).goes).gD)), (eN ((((s.ask (s.eraseOk ↑dn ↑bn)).setB dn bn { (s.ask (s.eraseOk ↑dn ↑bn)).bl dn bn with er := IntKind.i64.wrap (((s.ask (s.eraseOk ↑dn ↑bn)).bl dn bn).er + 1) }).goes).gB)), (eN ((((s.ask (s.eraseOk ↑dn ↑bn)).setB dn bn { (s.ask (s.eraseOk ↑dn ↑bn)).bl dn bn with er := IntKind.i64.wrap (((s.ask (s.eraseOk ↑dn ↑bn)).bl dn bn).er + 1) }).goes).gP)), (sli L.bD 0 ((((s.ask (s.eraseOk ↑dn ↑bn)).setB dn bn { (s.ask (s.eraseOk ↑dn ↑bn)).bl dn bn with er := IntKind.i64.wrap (((s.ask (s.eraseOk ↑dn ↑bn)).bl dn bn).er + 1) }).goes).n) ((((s.ask (s.eraseOk ↑dn ↑bn)).setB dn bn { (s.ask (s.eraseOk ↑dn ↑bn)).bl dn bn with er := IntKind.i64.wrap (((s.ask (s.eraseOk ↑dn ↑bn)).bl dn bn).er + 1) }).goes).n))]), (eN dn), (eN bn)] ++ (us 29)) ?_
  refine wO (d_call (xl := [.tmp 46, .tmp 47, .tmp 48]) (al := [(Value.agg #[(eN ((((s.ask (s.eraseOk ↑dn ↑bn)).setB dn bn { (s.ask (s.eraseOk ↑dn ↑bn)).bl dn bn with er := IntKind.i64.wrap (((s.ask (s.eraseOk ↑dn ↑bn)).bl dn bn).er + 1) }).goes).gD)), (eN ((((s.ask (s.eraseOk ↑dn ↑bn)).setB dn bn { (s.ask (s.eraseOk ↑dn ↑bn)).bl dn bn with er := IntKind.i64.wrap (((s.ask (s.eraseOk ↑dn ↑bn)).bl dn bn).er + 1) }).goes).gB)), (eN ((((s.ask (s.eraseOk ↑dn ↑bn)).setB dn bn { (s.ask (s.eraseOk ↑dn ↑bn)).bl dn bn with er := IntKind.i64.wrap (((s.ask (s.eraseOk ↑dn ↑bn)).bl dn bn).er + 1) }).goes).gP)), (sli L.bD 0 ((((s.ask (s.eraseOk ↑dn ↑bn)).setB dn bn { (s.ask (s.eraseOk ↑dn ↑bn)).bl dn bn with er := IntKind.i64.wrap (((s.ask (s.eraseOk ↑dn ↑bn)).bl dn bn).er + 1) }).goes).n) ((((s.ask (s.eraseOk ↑dn ↑bn)).setB dn bn { (s.ask (s.eraseOk ↑dn ↑bn)).bl dn bn with er := IntKind.i64.wrap (((s.ask (s.eraseOk ↑dn ↑bn)).bl dn bn).er + 1) }).goes).n))]), (eN dn), (eN bn)]) Try.func53 kr rfl rfl rfl (blockI_ok (((s.ask (s.eraseOk ↑dn ↑bn)).setB dn bn { (s.ask (s.eraseOk ↑dn ↑bn)).bl dn bn with er := IntKind.i64.wrap (((s.ask (s.eraseOk ↑dn ↑bn)).bl dn bn).er + 1) }).goes) L.bD dn bn _)) ?_
  rintro _ w40 ⟨b42, b43, b44, rfl, g45, g46, g47, n51, n52, n53, a48, a49, a50, o41⟩
  have n_nbx_b42 : nbx ≠ b42 := a13.ne g45
  have n_tb_b42 : tb ≠ b42 := a38.ne g45
  have g_oW_b42 : W.heap.size ≤ b42 := Nat.le_trans oW.size g45
  replace hN := Nd.less (Y := Or1 b42 (Or1 tb (Or1 nbx X))) hN (xx_new g45 xx_id)
  have n_nbx_b43 : nbx ≠ b43 := a13.ne g46
  have n_tb_b43 : tb ≠ b43 := a38.ne g46
  have g_oW_b43 : W.heap.size ≤ b43 := Nat.le_trans oW.size g46
  replace hN := Nd.less (Y := Or1 b43 (Or1 b42 (Or1 tb (Or1 nbx X)))) hN (xx_new g46 xx_id)
  have n_b42_b43 : b42 ≠ b43 := n51
  have n_b42_b44 : b42 ≠ b44 := n52
  have n_b43_b44 : b43 ≠ b44 := n53
  have n_nbx_b44 : nbx ≠ b44 := a13.ne g47
  have n_tb_b44 : tb ≠ b44 := a38.ne g47
  have g_oW_b44 : W.heap.size ≤ b44 := Nat.le_trans oW.size g47
  replace hN := hN.new o41 g47
  replace a13 := a13.step0 o41
  replace a38 := a38.step0 o41
  replace oW := oW.tail0 o41
  refine wD (tN (wB ?_))
  refine wp_eq (l' := ([(ptr L.bN 0), (eN dn), (eN bn), (ptr nbx 0), undef, undef, (eN 0), (eN (s.askR (s.eraseOk ↑dn ↑bn))), (ptr tb 0), undef, undef, (ptr L.bN 0), (ptr L.bN 0), (eN dn), (eN bn), vT, vT, (ptr L.bN 0), (eN dn), (eN bn), vF, vT, vT, (eN (s.askR (s.eraseOk ↑dn ↑bn))), (eN (s.askR (s.eraseOk ↑dn ↑bn))), (Value.bool (!decide ((s.askR (s.eraseOk ↑dn ↑bn)) = 0))), undef, (ptr L.bN 0), (ptr L.bN 0), (ptr L.bN 11), L.ub, (eN dn), (ixp L.ub dn), (sli (L.bk.getD dn 0) 0 ((s.ask (s.eraseOk ↑dn ↑bn)).gB) ((s.ask (s.eraseOk ↑dn ↑bn)).gB)), (eN bn), (ptr (L.bk.getD dn 0) (bn * 3)), (ptr (L.bk.getD dn 0) (bn * 3 + 1)), (eI (((s.ask (s.eraseOk ↑dn ↑bn)).bl dn bn).er)), (eI (IntKind.i64.wrap (((s.ask (s.eraseOk ↑dn ↑bn)).bl dn bn).er + 1))), (ptr (L.bk.getD dn 0) (bn * 3)), (ptr (L.bk.getD dn 0) (bn * 3 + 1)), (ptr L.bN 0), (Value.bool (((s.ask (s.eraseOk ↑dn ↑bn)).setB dn bn { (s.ask (s.eraseOk ↑dn ↑bn)).bl dn bn with er := IntKind.i64.wrap (((s.ask (s.eraseOk ↑dn ↑bn)).bl dn bn).er + 1) }).goesR)), (ptr L.bN 0), (ptr L.bN 0), (ptr L.bN 3), (Value.agg #[(eN ((((s.ask (s.eraseOk ↑dn ↑bn)).setB dn bn { (s.ask (s.eraseOk ↑dn ↑bn)).bl dn bn with er := IntKind.i64.wrap (((s.ask (s.eraseOk ↑dn ↑bn)).bl dn bn).er + 1) }).goes).gD)), (eN ((((s.ask (s.eraseOk ↑dn ↑bn)).setB dn bn { (s.ask (s.eraseOk ↑dn ↑bn)).bl dn bn with er := IntKind.i64.wrap (((s.ask (s.eraseOk ↑dn ↑bn)).bl dn bn).er + 1) }).goes).gB)), (eN ((((s.ask (s.eraseOk ↑dn ↑bn)).setB dn bn { (s.ask (s.eraseOk ↑dn ↑bn)).bl dn bn with er := IntKind.i64.wrap (((s.ask (s.eraseOk ↑dn ↑bn)).bl dn bn).er + 1) }).goes).gP)), (sli L.bD 0 ((((s.ask (s.eraseOk ↑dn ↑bn)).setB dn bn { (s.ask (s.eraseOk ↑dn ↑bn)).bl dn bn with er := IntKind.i64.wrap (((s.ask (s.eraseOk ↑dn ↑bn)).bl dn bn).er + 1) }).goes).n) ((((s.ask (s.eraseOk ↑dn ↑bn)).setB dn bn { (s.ask (s.eraseOk ↑dn ↑bn)).bl dn bn with er := IntKind.i64.wrap (((s.ask (s.eraseOk ↑dn ↑bn)).bl dn bn).er + 1) }).goes).n))]), (eN dn), (eN bn), (Value.func (.func 63) #[] #[(ptr b42 0), (ptr b43 0), (ptr b44 0)])] ++ (us 28))) rfl ?_
  have h_lt_nbx := a13.lt
  have h_lt_tb := a38.lt
  have h_lt_b44 := a50.lt
  have h_lt_b42 := a48.lt
  have h_lt_b43 := a49.lt
  have tq_oW := oW.size
  have nO_b42 : ¬ (Or1 tb (Or1 nbx (Ors L.S No))) b42 := (not_or1 (Ne.symm n_tb_b42) (not_or1 (Ne.symm n_nbx_b42) (not_ors (hN.dis _ (in2 (in2 in1))) not_no)))
  have nO_b43 : ¬ (Or1 tb (Or1 nbx (Ors L.S No))) b43 := (not_or1 (Ne.symm n_tb_b43) (not_or1 (Ne.symm n_nbx_b43) (not_ors (hN.dis _ (in2 in1)) not_no)))
  have nO_b44 : ¬ (Or1 tb (Or1 nbx (Ors L.S No))) b44 := (not_or1 (Ne.symm n_tb_b44) (not_or1 (Ne.symm n_nbx_b44) (not_ors (hN.dis _ in1) not_no)))
  obtain ⟨D_, hD_⟩ : ∃ D_, w40.heap.size = D_ := ⟨_, rfl⟩
  obtain ⟨L_, hL_⟩ : ∃ L_, w40.heap.size + 1 = L_ := ⟨_, rfl⟩
  refine range_ (encs := (fun k => [eN k, ptr L.bD ((((s.ask (s.eraseOk ↑dn ↑bn)).setB dn bn { (s.ask (s.eraseOk ↑dn ↑bn)).bl dn bn with er := IntKind.i64.wrap (((s.ask (s.eraseOk ↑dn ↑bn)).bl dn bn).er + 1) }).goes).ix dn bn k)])) (Pv := No) (O := (Or1 tb (Or1 nbx (Ors L.S No)))) (xs := (List.range (((s.ask (s.eraseOk ↑dn ↑bn)).setB dn bn { (s.ask (s.eraseOk ↑dn ↑bn)).bl dn bn with er := IntKind.i64.wrap (((s.ask (s.eraseOk ↑dn ↑bn)).bl dn bn).er + 1) }).goes).gP)) (D := D_) (L := L_) (rs := []) hD_ hL_ rfl Try.func63 kr rfl (iter_block (((s.ask (s.eraseOk ↑dn ↑bn)).setB dn bn { (s.ask (s.eraseOk ↑dn ↑bn)).bl dn bn with er := IntKind.i64.wrap (((s.ask (s.eraseOk ↑dn ↑bn)).bl dn bn).er + 1) }).goes) hN.ok L.bD dn bn hd1 hb1 b42 b43 b44 a48 a49 a50 n_b42_b43 n_b42_b44 n_b43_b44 nO_b42 nO_b43 nO_b44) (fun k t => t.elim) (fun _ => rfl) (lt_or1 h_lt_tb (lt_or1 h_lt_nbx (lt_ors hN.lt lt_no))) (fun (pre : List Nat) (w_ : World) => Only (Or1 tb (Or1 nbx (Ors L.S No))) w40 w_ ∧ Arr 27 nbx [(ptr L.bN 0)] w_ ∧ Arr 4 tb [(Value.bool (((s.ask (s.eraseOk ↑dn ↑bn)).setB dn bn { (s.ask (s.eraseOk ↑dn ↑bn)).bl dn bn with er := IntKind.i64.wrap (((s.ask (s.eraseOk ↑dn ↑bn)).bl dn bn).er + 1) }).goesR))] w_ ∧ Arr 3 b44 [(eN bn)] w_ ∧ Arr 65 b42 [(eN ((((s.ask (s.eraseOk ↑dn ↑bn)).setB dn bn { (s.ask (s.eraseOk ↑dn ↑bn)).bl dn bn with er := IntKind.i64.wrap (((s.ask (s.eraseOk ↑dn ↑bn)).bl dn bn).er + 1) }).goes).gD)), (eN ((((s.ask (s.eraseOk ↑dn ↑bn)).setB dn bn { (s.ask (s.eraseOk ↑dn ↑bn)).bl dn bn with er := IntKind.i64.wrap (((s.ask (s.eraseOk ↑dn ↑bn)).bl dn bn).er + 1) }).goes).gB)), (eN ((((s.ask (s.eraseOk ↑dn ↑bn)).setB dn bn { (s.ask (s.eraseOk ↑dn ↑bn)).bl dn bn with er := IntKind.i64.wrap (((s.ask (s.eraseOk ↑dn ↑bn)).bl dn bn).er + 1) }).goes).gP)), (sli L.bD 0 ((((s.ask (s.eraseOk ↑dn ↑bn)).setB dn bn { (s.ask (s.eraseOk ↑dn ↑bn)).bl dn bn with er := IntKind.i64.wrap (((s.ask (s.eraseOk ↑dn ↑bn)).bl dn bn).er + 1) }).goes).n) ((((s.ask (s.eraseOk ↑dn ↑bn)).setB dn bn { (s.ask (s.eraseOk ↑dn ↑bn)).bl dn bn with er := IntKind.i64.wrap (((s.ask (s.eraseOk ↑dn ↑bn)).bl dn bn).er + 1) }).goes).n))] w_ ∧ Arr 3 b43 [(eN dn)] w_ ∧ Nd L ((((s.ask (s.eraseOk ↑dn ↑bn)).setB dn bn { (s.ask (s.eraseOk ↑dn ↑bn)).bl dn bn with er := IntKind.i64.wrap (((s.ask (s.eraseOk ↑dn ↑bn)).bl dn bn).er + 1) }).goes).eraseTo (((s.ask (s.eraseOk ↑dn ↑bn)).setB dn bn { (s.ask (s.eraseOk ↑dn ↑bn)).bl dn bn with er := IntKind.i64.wrap (((s.ask (s.eraseOk ↑dn ↑bn)).bl dn bn).er + 1) }).goesR) dn bn pre.length) (Or1 L_ (Or1 D_ (Or1 b44 (Or1 b43 (Or1 b42 (Or1 tb (Or1 nbx X))))))) w_) (fun _ _ _ => False) ?_ ?_ ?_ ?_ ?_ ?_
  ·
   rintro pre w_ w2_ ⟨o54, a13, a38, a50, a48, a49, hN⟩ ho_
   exact ⟨o54.tail ho_ (stab_tl hD_ hL_ (fun k t => t.elim)), a13.step ho_ (stab_b hD_ hL_ h_lt_nbx (fun t => t.elim)), a38.step ho_ (stab_b hD_ hL_ h_lt_tb (fun t => t.elim)), a50.step ho_ (stab_b hD_ hL_ h_lt_b44 (fun t => t.elim)), a48.step ho_ (stab_b hD_ hL_ h_lt_b42 (fun t => t.elim)), a49.step ho_ (stab_b hD_ hL_ h_lt_b43 (fun t => t.elim)), hN.step ho_ (stab_p (fun k t => t.elim))⟩
  ·
   intro _ _ _ _ h _; exact h.elim
  ·
   refine ⟨?_, ?_, ?_, ?_, ?_, ?_, ?_⟩
   ·
    exact Only.refl _ _
   ·
    exact a13
   ·
    exact a38
   ·
    exact a50
   ·
    exact a48
   ·
    exact a49
   ·
    (try dsimp only)
    all_goals (rw [show ([] : List Nat).length = 0 from rfl, NS.eraseTo_zero]; exact Nd.less hN (xx_new oo (xx_new (Nat.le_of_eq hD_) xx_id)))
  ·
   intro pre k w1_ hpx_ hI_ hL1_
   obtain ⟨o54, a13, a38, a50, a48, a49, hN⟩ := hI_
   replace oW := oW.tail o54 (tl_new g_oW_tb (tl_new g_oW_nbx (tl_sin (fun k h => h) tl_no)))
   have n_nbx_D_ : nbx ≠ D_ := by omega
   have n_tb_D_ : tb ≠ D_ := by omega
   have n_b44_D_ : b44 ≠ D_ := by omega
   have n_b42_D_ : b42 ≠ D_ := by omega
   have n_b43_D_ : b43 ≠ D_ := by omega
   have g_oW_D_ : W.heap.size ≤ D_ := by omega
   have g_o54_D_ : w40.heap.size ≤ D_ := by omega
   have n_nbx_L_ : nbx ≠ L_ := by omega
   have n_tb_L_ : tb ≠ L_ := by omega
   have n_b44_L_ : b44 ≠ L_ := by omega
   have n_b42_L_ : b42 ≠ L_ := by omega
   have n_b43_L_ : b43 ≠ L_ := by omega
   have g_oW_L_ : W.heap.size ≤ L_ := by omega
   have g_o54_L_ : w40.heap.size ≤ L_ := by omega
   have n_D__L_ : D_ ≠ L_ := by omega
   have aL_ : Dead L_ w1_ := hL1_
   have aD_ : Dead D_ w1_ := by unfold Dead; omega
   refine wp_eq (l' := ([(ptr L.bN 0), (eN dn), (eN bn), (ptr nbx 0), undef, undef, (eN 0), (eN (s.askR (s.eraseOk ↑dn ↑bn))), (ptr tb 0), undef, undef, (ptr L.bN 0), (ptr L.bN 0), (eN dn), (eN bn), vT, vT, (ptr L.bN 0), (eN dn), (eN bn), vF, vT, vT, (eN (s.askR (s.eraseOk ↑dn ↑bn))), (eN (s.askR (s.eraseOk ↑dn ↑bn))), (Value.bool (!decide ((s.askR (s.eraseOk ↑dn ↑bn)) = 0))), undef, (ptr L.bN 0), (ptr L.bN 0), (ptr L.bN 11), L.ub, (eN dn), (ixp L.ub dn), (sli (L.bk.getD dn 0) 0 ((s.ask (s.eraseOk ↑dn ↑bn)).gB) ((s.ask (s.eraseOk ↑dn ↑bn)).gB)), (eN bn), (ptr (L.bk.getD dn 0) (bn * 3)), (ptr (L.bk.getD dn 0) (bn * 3 + 1)), (eI (((s.ask (s.eraseOk ↑dn ↑bn)).bl dn bn).er)), (eI (IntKind.i64.wrap (((s.ask (s.eraseOk ↑dn ↑bn)).bl dn bn).er + 1))), (ptr (L.bk.getD dn 0) (bn * 3)), (ptr (L.bk.getD dn 0) (bn * 3 + 1)), (ptr L.bN 0), (Value.bool (((s.ask (s.eraseOk ↑dn ↑bn)).setB dn bn { (s.ask (s.eraseOk ↑dn ↑bn)).bl dn bn with er := IntKind.i64.wrap (((s.ask (s.eraseOk ↑dn ↑bn)).bl dn bn).er + 1) }).goesR)), (ptr L.bN 0), (ptr L.bN 0), (ptr L.bN 3), (Value.agg #[(eN ((((s.ask (s.eraseOk ↑dn ↑bn)).setB dn bn { (s.ask (s.eraseOk ↑dn ↑bn)).bl dn bn with er := IntKind.i64.wrap (((s.ask (s.eraseOk ↑dn ↑bn)).bl dn bn).er + 1) }).goes).gD)), (eN ((((s.ask (s.eraseOk ↑dn ↑bn)).setB dn bn { (s.ask (s.eraseOk ↑dn ↑bn)).bl dn bn with er := IntKind.i64.wrap (((s.ask (s.eraseOk ↑dn ↑bn)).bl dn bn).er + 1) }).goes).gB)), (eN ((((s.ask (s.eraseOk ↑dn ↑bn)).setB dn bn { (s.ask (s.eraseOk ↑dn ↑bn)).bl dn bn with er := IntKind.i64.wrap (((s.ask (s.eraseOk ↑dn ↑bn)).bl dn bn).er + 1) }).goes).gP)), (sli L.bD 0 ((((s.ask (s.eraseOk ↑dn ↑bn)).setB dn bn { (s.ask (s.eraseOk ↑dn ↑bn)).bl dn bn with er := IntKind.i64.wrap (((s.ask (s.eraseOk ↑dn ↑bn)).bl dn bn).er + 1) }).goes).n) ((((s.ask (s.eraseOk ↑dn ↑bn)).setB dn bn { (s.ask (s.eraseOk ↑dn ↑bn)).bl dn bn with er := IntKind.i64.wrap (((s.ask (s.eraseOk ↑dn ↑bn)).bl dn bn).er + 1) }).goes).n))]), (eN dn), (eN bn), (Value.func (.func 63) #[] #[(ptr b42 0), (ptr b43 0), (ptr b44 0)]), (eN k), (ptr L.bD ((((s.ask (s.eraseOk ↑dn ↑bn)).setB dn bn { (s.ask (s.eraseOk ↑dn ↑bn)).bl dn bn with er := IntKind.i64.wrap (((s.ask (s.eraseOk ↑dn ↑bn)).bl dn bn).er + 1) }).goes).ix dn bn k))] ++ (us 26))) kr ?_
   refine pL ?_
   refine wI (d_assign rfl) ?_
   refine wD (tN ?_)
   refine ⟨Only.refl _ _, fun w2_ oL_ _ => ?_⟩
   replace hN := hN.stepb oL_ in1
   replace a13 := a13.step oL_ (fun e => absurd e n_nbx_L_)
   replace a38 := a38.step oL_ (fun e => absurd e n_tb_L_)
   replace a50 := a50.step oL_ (fun e => absurd e n_b44_L_)
   replace a48 := a48.step oL_ (fun e => absurd e n_b42_L_)
   replace a49 := a49.step oL_ (fun e => absurd e n_b43_L_)
   replace aD_ := aD_.step oL_ (fun e => absurd e n_D__L_)
   replace oW := oW.tailb oL_ g_oW_L_
   replace o54 := o54.tailb oL_ g_o54_L_
   replace aL_ : Dead L_ w2_ := Nat.lt_of_lt_of_le aL_ oL_.size
   have oR_ : Only (fun k => (Or1 tb (Or1 nbx (Ors L.S No))) k ∨ L_ < k) w2_ w2_ := Only.refl _ _
   obtain ⟨hk1_, hk2_⟩ := pre_range hpx_
   subst hk1_
   refine wp_eq (l' := ([(ptr L.bN 0), (eN dn), (eN bn), (ptr nbx 0), undef, undef, (eN 0), (eN (s.askR (s.eraseOk ↑dn ↑bn))), (ptr tb 0), undef, (ptr L.bD ((((s.ask (s.eraseOk ↑dn ↑bn)).setB dn bn { (s.ask (s.eraseOk ↑dn ↑bn)).bl dn bn with er := IntKind.i64.wrap (((s.ask (s.eraseOk ↑dn ↑bn)).bl dn bn).er + 1) }).goes).ix dn bn pre.length)), (ptr L.bN 0), (ptr L.bN 0), (eN dn), (eN bn), vT, vT, (ptr L.bN 0), (eN dn), (eN bn), vF, vT, vT, (eN (s.askR (s.eraseOk ↑dn ↑bn))), (eN (s.askR (s.eraseOk ↑dn ↑bn))), (Value.bool (!decide ((s.askR (s.eraseOk ↑dn ↑bn)) = 0))), undef, (ptr L.bN 0), (ptr L.bN 0), (ptr L.bN 11), L.ub, (eN dn), (ixp L.ub dn), (sli (L.bk.getD dn 0) 0 ((s.ask (s.eraseOk ↑dn ↑bn)).gB) ((s.ask (s.eraseOk ↑dn ↑bn)).gB)), (eN bn), (ptr (L.bk.getD dn 0) (bn * 3)), (ptr (L.bk.getD dn 0) (bn * 3 + 1)), (eI (((s.ask (s.eraseOk ↑dn ↑bn)).bl dn bn).er)), (eI (IntKind.i64.wrap (((s.ask (s.eraseOk ↑dn ↑bn)).bl dn bn).er + 1))), (ptr (L.bk.getD dn 0) (bn * 3)), (ptr (L.bk.getD dn 0) (bn * 3 + 1)), (ptr L.bN 0), (Value.bool (((s.ask (s.eraseOk ↑dn ↑bn)).setB dn bn { (s.ask (s.eraseOk ↑dn ↑bn)).bl dn bn with er := IntKind.i64.wrap (((s.ask (s.eraseOk ↑dn ↑bn)).bl dn bn).er + 1) }).goesR)), (ptr L.bN 0), (ptr L.bN 0), (ptr L.bN 3), (Value.agg #[(eN ((((s.ask (s.eraseOk ↑dn ↑bn)).setB dn bn { (s.ask (s.eraseOk ↑dn ↑bn)).bl dn bn with er := IntKind.i64.wrap (((s.ask (s.eraseOk ↑dn ↑bn)).bl dn bn).er + 1) }).goes).gD)), (eN ((((s.ask (s.eraseOk ↑dn ↑bn)).setB dn bn { (s.ask (s.eraseOk ↑dn ↑bn)).bl dn bn with er := IntKind.i64.wrap (((s.ask (s.eraseOk ↑dn ↑bn)).bl dn bn).er + 1) }).goes).gB)), (eN ((((s.ask (s.eraseOk ↑dn ↑bn)).setB dn bn { (s.ask (s.eraseOk ↑dn ↑bn)).bl dn bn with er := IntKind.i64.wrap (((s.ask (s.eraseOk ↑dn ↑bn)).bl dn bn).er + 1) }).goes).gP)), (sli L.bD 0 ((((s.ask (s.eraseOk ↑dn ↑bn)).setB dn bn { (s.ask (s.eraseOk ↑dn ↑bn)).bl dn bn with er := IntKind.i64.wrap (((s.ask (s.eraseOk ↑dn ↑bn)).bl dn bn).er + 1) }).goes).n) ((((s.ask (s.eraseOk ↑dn ↑bn)).setB dn bn { (s.ask (s.eraseOk ↑dn ↑bn)).bl dn bn with er := IntKind.i64.wrap (((s.ask (s.eraseOk ↑dn ↑bn)).bl dn bn).er + 1) }).goes).n))]), (eN dn), (eN bn), (Value.func (.func 63) #[] #[(ptr b42 0), (ptr b43 0), (ptr b44 0)]), (eN pre.length), (ptr L.bD ((((s.ask (s.eraseOk ↑dn ↑bn)).setB dn bn { (s.ask (s.eraseOk ↑dn ↑bn)).bl dn bn with er := IntKind.i64.wrap (((s.ask (s.eraseOk ↑dn ↑bn)).bl dn bn).er + 1) }).goes).ix dn bn pre.length))] ++ (us 26))) rfl ?_
   refine wB (wQ (pL ?_))
   refine wI (d_load (v := (Value.bool (((s.ask (s.eraseOk ↑dn ↑bn)).setB dn bn { (s.ask (s.eraseOk ↑dn ↑bn)).bl dn bn with er := IntKind.i64.wrap (((s.ask (s.eraseOk ↑dn ↑bn)).bl dn bn).er + 1) }).goesR))) ⟨_, Try.underlying4, rfl⟩ rfl a38 rfl) ?_
   refine wF ([(ptr L.bN 0), (eN dn), (eN bn), (ptr nbx 0), undef, undef, (eN 0), (eN (s.askR (s.eraseOk ↑dn ↑bn))), (ptr tb 0), undef, (ptr L.bD ((((s.ask (s.eraseOk ↑dn ↑bn)).setB dn bn { (s.ask (s.eraseOk ↑dn ↑bn)).bl dn bn with er := IntKind.i64.wrap (((s.ask (s.eraseOk ↑dn ↑bn)).bl dn bn).er + 1) }).goes).ix dn bn pre.length)), (ptr L.bN 0), (ptr L.bN 0), (eN dn), (eN bn), vT, vT, (ptr L.bN 0), (eN dn), (eN bn), vF, vT, vT, (eN (s.askR (s.eraseOk ↑dn ↑bn))), (eN (s.askR (s.eraseOk ↑dn ↑bn))), (Value.bool (!decide ((s.askR (s.eraseOk ↑dn ↑bn)) = 0))), undef, (ptr L.bN 0), (ptr L.bN 0), (ptr L.bN 11), L.ub, (eN dn), (ixp L.ub dn), (sli (L.bk.getD dn 0) 0 ((s.ask (s.eraseOk ↑dn ↑bn)).gB) ((s.ask (s.eraseOk ↑dn ↑bn)).gB)), (eN bn), (ptr (L.bk.getD dn 0) (bn * 3)), (ptr (L.bk.getD dn 0) (bn * 3 + 1)), (eI (((s.ask (s.eraseOk ↑dn ↑bn)).bl dn bn).er)), (eI (IntKind.i64.wrap (((s.ask (s.eraseOk ↑dn ↑bn)).bl dn bn).er + 1))), (ptr (L.bk.getD dn 0) (bn * 3)), (ptr (L.bk.getD dn 0) (bn * 3 + 1)), (ptr L.bN 0), (Value.bool (((s.ask (s.eraseOk ↑dn ↑bn)).setB dn bn { (s.ask (s.eraseOk ↑dn ↑bn)).bl dn bn with er := IntKind.i64.wrap (((s.ask (s.eraseOk ↑dn ↑bn)).bl dn bn).er + 1) }).goesR)), (ptr L.bN 0), (ptr L.bN 0), (ptr L.bN 3), (Value.agg #[(eN ((((s.ask (s.eraseOk ↑dn ↑bn)).setB dn bn { (s.ask (s.eraseOk ↑dn ↑bn)).bl dn bn with er := IntKind.i64.wrap (((s.ask (s.eraseOk ↑dn ↑bn)).bl dn bn).er + 1) }).goes).gD)), (eN ((((s.ask (s.eraseOk ↑dn ↑bn)).setB dn bn { (s.ask (s.eraseOk ↑dn ↑bn)).bl dn bn with er := IntKind.i64.wrap (((s.ask (s.eraseOk ↑dn ↑bn)).bl dn bn).er + 1) }).goes).gB)), (eN ((((s.ask (s.eraseOk ↑dn ↑bn)).setB dn bn { (s.ask (s.eraseOk ↑dn ↑bn)).bl dn bn with er := IntKind.i64.wrap (((s.ask (s.eraseOk ↑dn ↑bn)).bl dn bn).er + 1) }).goes).gP)), (sli L.bD 0 ((((s.ask (s.eraseOk ↑dn ↑bn)).setB dn bn { (s.ask (s.eraseOk ↑dn ↑bn)).bl dn bn with er := IntKind.i64.wrap (((s.ask (s.eraseOk ↑dn ↑bn)).bl dn bn).er + 1) }).goes).n) ((((s.ask (s.eraseOk ↑dn ↑bn)).setB dn bn { (s.ask (s.eraseOk ↑dn ↑bn)).bl dn bn with er := IntKind.i64.wrap (((s.ask (s.eraseOk ↑dn ↑bn)).bl dn bn).er + 1) }).goes).n))]), (eN dn), (eN bn), (Value.func (.func 63) #[] #[(ptr b42 0), (ptr b43 0), (ptr b44 0)]), (eN pre.length), (ptr L.bD ((((s.ask (s.eraseOk ↑dn ↑bn)).setB dn bn { (s.ask (s.eraseOk ↑dn ↑bn)).bl dn bn with er := IntKind.i64.wrap (((s.ask (s.eraseOk ↑dn ↑bn)).bl dn bn).er + 1) }).goes).ix dn bn pre.length)), (Value.bool (((s.ask (s.eraseOk ↑dn ↑bn)).setB dn bn { (s.ask (s.eraseOk ↑dn ↑bn)).bl dn bn with er := IntKind.i64.wrap (((s.ask (s.eraseOk ↑dn ↑bn)).bl dn bn).er + 1) }).goesR))] ++ (us 25)) ?_
   refine wD (tN ?_)
   refine cond_b rfl (fun c1 => ?_) (fun c1 => ?_)
   ·
    have l1_ : (((((s.ask (s.eraseOk ↑dn ↑bn)).setB dn bn { (s.ask (s.eraseOk ↑dn ↑bn)).bl dn bn with er := IntKind.i64.wrap (((s.ask (s.eraseOk ↑dn ↑bn)).bl dn bn).er + 1) }).goes).eraseTo (((s.ask (s.eraseOk ↑dn ↑bn)).setB dn bn { (s.ask (s.eraseOk ↑dn ↑bn)).bl dn bn with er := IntKind.i64.wrap (((s.ask (s.eraseOk ↑dn ↑bn)).bl dn bn).er + 1) }).goesR) dn bn pre.length).dl ((((s.ask (s.eraseOk ↑dn ↑bn)).setB dn bn { (s.ask (s.eraseOk ↑dn ↑bn)).bl dn bn with er := IntKind.i64.wrap (((s.ask (s.eraseOk ↑dn ↑bn)).bl dn bn).er + 1) }).goes).ix dn bn pre.length)).length = 60 := hN.ok.dl _
    have l3_ : ((((s.ask (s.eraseOk ↑dn ↑bn)).setB dn bn { (s.ask (s.eraseOk ↑dn ↑bn)).bl dn bn with er := IntKind.i64.wrap (((s.ask (s.eraseOk ↑dn ↑bn)).bl dn bn).er + 1) }).goes).eraseTo (((s.ask (s.eraseOk ↑dn ↑bn)).setB dn bn { (s.ask (s.eraseOk ↑dn ↑bn)).bl dn bn with er := IntKind.i64.wrap (((s.ask (s.eraseOk ↑dn ↑bn)).bl dn bn).er + 1) }).goesR) dn bn pre.length).mask.length ≤ 1048576 := hN.ok.ml
    refine drawnT (O := (Or1 tb (Or1 nbx (Ors L.S No)))) (n := 12) 10 [0, 0, 2, 6, 0, 0, 32, 96, 224, 510, 1023, 2047] [(0, 53), (1, 54), (2, 55), (3, 56), (4, 57), (5, 58), (6, 59), (7, 60), (8, 61), (9, 62), (10, 63)] [(0, 53), (1, 54), (2, 55), (3, 56), (4, 57), (5, 58), (6, 59), (7, 60), (8, 61), (9, 62)] [0, 1, 2, 3, 4, 5, 6, 7, 8, 9] [] (fun i_ => ([RF.is (Or1 tb (Or1 nbx (Ors L.S No))) (ptr L.bD ((((s.ask (s.eraseOk ↑dn ↑bn)).setB dn bn { (s.ask (s.eraseOk ↑dn ↑bn)).bl dn bn with er := IntKind.i64.wrap (((s.ask (s.eraseOk ↑dn ↑bn)).bl dn bn).er + 1) }).goes).ix dn bn pre.length)), RF.is (Or1 tb (Or1 nbx (Ors L.S No))) (ptr L.bD ((((s.ask (s.eraseOk ↑dn ↑bn)).setB dn bn { (s.ask (s.eraseOk ↑dn ↑bn)).bl dn bn with er := IntKind.i64.wrap (((s.ask (s.eraseOk ↑dn ↑bn)).bl dn bn).er + 1) }).goes).ix dn bn pre.length)), RF.is (Or1 tb (Or1 nbx (Ors L.S No))) (ptr L.bD ((((s.ask (s.eraseOk ↑dn ↑bn)).setB dn bn { (s.ask (s.eraseOk ↑dn ↑bn)).bl dn bn with er := IntKind.i64.wrap (((s.ask (s.eraseOk ↑dn ↑bn)).bl dn bn).er + 1) }).goes).ix dn bn pre.length)), RF.ps (Or1 tb (Or1 nbx (Ors L.S No))) (Or1 L_ (Or1 D_ (Or1 b44 (Or1 b43 (Or1 b42 (Or1 tb (Or1 nbx (Ors L.S X)))))))) (Seq kB (((((s.ask (s.eraseOk ↑dn ↑bn)).setB dn bn { (s.ask (s.eraseOk ↑dn ↑bn)).bl dn bn with er := IntKind.i64.wrap (((s.ask (s.eraseOk ↑dn ↑bn)).bl dn bn).er + 1) }).goes).eraseTo (((s.ask (s.eraseOk ↑dn ↑bn)).setB dn bn { (s.ask (s.eraseOk ↑dn ↑bn)).bl dn bn with er := IntKind.i64.wrap (((s.ask (s.eraseOk ↑dn ↑bn)).bl dn bn).er + 1) }).goesR) dn bn pre.length).dl ((((s.ask (s.eraseOk ↑dn ↑bn)).setB dn bn { (s.ask (s.eraseOk ↑dn ↑bn)).bl dn bn with er := IntKind.i64.wrap (((s.ask (s.eraseOk ↑dn ↑bn)).bl dn bn).er + 1) }).goes).ix dn bn pre.length))) (or1_skip (or1_skip (or1_skip (or1_skip (or1_skip (or1_mono (or1_mono (ors_mono no_any)))))))), RF.ps (Or1 tb (Or1 nbx (Ors L.S No))) (Or1 L_ (Or1 D_ (Or1 b44 (Or1 b43 (Or1 b42 (Or1 tb (Or1 nbx (Ors L.S (Old W.heap.size))))))))) (Seq kB onesW) (or1_skip (or1_skip (or1_skip (or1_skip (or1_skip (or1_mono (or1_mono (ors_mono no_any)))))))), RF.is (Or1 tb (Or1 nbx (Ors L.S No))) (ptr L.bN 0), RF.is (Or1 tb (Or1 nbx (Ors L.S No))) (ptr L.bN 0), RF.is (Or1 tb (Or1 nbx (Ors L.S No))) (ptr L.bN 13), RF.ps (Or1 tb (Or1 nbx (Ors L.S No))) (Or1 L_ (Or1 D_ (Or1 b44 (Or1 b43 (Or1 b42 (Or1 tb (Or1 nbx (Ors L.S X)))))))) (Seq kB (((((s.ask (s.eraseOk ↑dn ↑bn)).setB dn bn { (s.ask (s.eraseOk ↑dn ↑bn)).bl dn bn with er := IntKind.i64.wrap (((s.ask (s.eraseOk ↑dn ↑bn)).bl dn bn).er + 1) }).goes).eraseTo (((s.ask (s.eraseOk ↑dn ↑bn)).setB dn bn { (s.ask (s.eraseOk ↑dn ↑bn)).bl dn bn with er := IntKind.i64.wrap (((s.ask (s.eraseOk ↑dn ↑bn)).bl dn bn).er + 1) }).goesR) dn bn pre.length).mask)) (or1_skip (or1_skip (or1_skip (or1_skip (or1_skip (or1_mono (or1_mono (ors_mono no_any)))))))), RF.ps (Or1 tb (Or1 nbx (Ors L.S No))) (Or1 L_ (Or1 D_ (Or1 b44 (Or1 b43 (Or1 b42 (Or1 tb (Or1 nbx (Ors L.S (Old W.heap.size))))))))) (Seq kB (mixR (((((s.ask (s.eraseOk ↑dn ↑bn)).setB dn bn { (s.ask (s.eraseOk ↑dn ↑bn)).bl dn bn with er := IntKind.i64.wrap (((s.ask (s.eraseOk ↑dn ↑bn)).bl dn bn).er + 1) }).goes).eraseTo (((s.ask (s.eraseOk ↑dn ↑bn)).setB dn bn { (s.ask (s.eraseOk ↑dn ↑bn)).bl dn bn with er := IntKind.i64.wrap (((s.ask (s.eraseOk ↑dn ↑bn)).bl dn bn).er + 1) }).goesR) dn bn pre.length).dl ((((s.ask (s.eraseOk ↑dn ↑bn)).setB dn bn { (s.ask (s.eraseOk ↑dn ↑bn)).bl dn bn with er := IntKind.i64.wrap (((s.ask (s.eraseOk ↑dn ↑bn)).bl dn bn).er + 1) }).goes).ix dn bn pre.length)) onesW (((((s.ask (s.eraseOk ↑dn ↑bn)).setB dn bn { (s.ask (s.eraseOk ↑dn ↑bn)).bl dn bn with er := IntKind.i64.wrap (((s.ask (s.eraseOk ↑dn ↑bn)).bl dn bn).er + 1) }).goes).eraseTo (((s.ask (s.eraseOk ↑dn ↑bn)).setB dn bn { (s.ask (s.eraseOk ↑dn ↑bn)).bl dn bn with er := IntKind.i64.wrap (((s.ask (s.eraseOk ↑dn ↑bn)).bl dn bn).er + 1) }).goesR) dn bn pre.length).mask))) (or1_skip (or1_skip (or1_skip (or1_skip (or1_skip (or1_mono (or1_mono (ors_mono no_any))))))))] : List (RF (Or1 tb (Or1 nbx (Ors L.S No))))).getD i_ (RF.any (Or1 tb (Or1 nbx (Ors L.S No))))) (fun _ w_ => Arr 27 nbx [(ptr L.bN 0)] w_ ∧ Arr 4 tb [(Value.bool (((s.ask (s.eraseOk ↑dn ↑bn)).setB dn bn { (s.ask (s.eraseOk ↑dn ↑bn)).bl dn bn with er := IntKind.i64.wrap (((s.ask (s.eraseOk ↑dn ↑bn)).bl dn bn).er + 1) }).goesR))] w_ ∧ Arr 3 b44 [(eN bn)] w_ ∧ Arr 65 b42 [(eN ((((s.ask (s.eraseOk ↑dn ↑bn)).setB dn bn { (s.ask (s.eraseOk ↑dn ↑bn)).bl dn bn with er := IntKind.i64.wrap (((s.ask (s.eraseOk ↑dn ↑bn)).bl dn bn).er + 1) }).goes).gD)), (eN ((((s.ask (s.eraseOk ↑dn ↑bn)).setB dn bn { (s.ask (s.eraseOk ↑dn ↑bn)).bl dn bn with er := IntKind.i64.wrap (((s.ask (s.eraseOk ↑dn ↑bn)).bl dn bn).er + 1) }).goes).gB)), (eN ((((s.ask (s.eraseOk ↑dn ↑bn)).setB dn bn { (s.ask (s.eraseOk ↑dn ↑bn)).bl dn bn with er := IntKind.i64.wrap (((s.ask (s.eraseOk ↑dn ↑bn)).bl dn bn).er + 1) }).goes).gP)), (sli L.bD 0 ((((s.ask (s.eraseOk ↑dn ↑bn)).setB dn bn { (s.ask (s.eraseOk ↑dn ↑bn)).bl dn bn with er := IntKind.i64.wrap (((s.ask (s.eraseOk ↑dn ↑bn)).bl dn bn).er + 1) }).goes).n) ((((s.ask (s.eraseOk ↑dn ↑bn)).setB dn bn { (s.ask (s.eraseOk ↑dn ↑bn)).bl dn bn with er := IntKind.i64.wrap (((s.ask (s.eraseOk ↑dn ↑bn)).bl dn bn).er + 1) }).goes).n))] w_ ∧ Arr 3 b43 [(eN dn)] w_ ∧ Dead D_ w_ ∧ Dead L_ w_ ∧ Nd L ((((s.ask (s.eraseOk ↑dn ↑bn)).setB dn bn { (s.ask (s.eraseOk ↑dn ↑bn)).bl dn bn with er := IntKind.i64.wrap (((s.ask (s.eraseOk ↑dn ↑bn)).bl dn bn).er + 1) }).goes).eraseTo (((s.ask (s.eraseOk ↑dn ↑bn)).setB dn bn { (s.ask (s.eraseOk ↑dn ↑bn)).bl dn bn with er := IntKind.i64.wrap (((s.ask (s.eraseOk ↑dn ↑bn)).bl dn bn).er + 1) }).goesR) dn bn pre.length) (Or1 L_ (Or1 D_ (Or1 b44 (Or1 b43 (Or1 b42 (Or1 tb (Or1 nbx X))))))) w_) (fun v55 => ([(ptr L.bN 0), (eN dn), (eN bn), (ptr nbx 0), undef, undef, (eN 0), (eN (s.askR (s.eraseOk ↑dn ↑bn))), (ptr tb 0), undef, (ptr L.bD ((((s.ask (s.eraseOk ↑dn ↑bn)).setB dn bn { (s.ask (s.eraseOk ↑dn ↑bn)).bl dn bn with er := IntKind.i64.wrap (((s.ask (s.eraseOk ↑dn ↑bn)).bl dn bn).er + 1) }).goes).ix dn bn pre.length)), (ptr L.bN 0), (ptr L.bN 0), (eN dn), (eN bn), vT, vT, (ptr L.bN 0), (eN dn), (eN bn), vF, vT, vT, (eN (s.askR (s.eraseOk ↑dn ↑bn))), (eN (s.askR (s.eraseOk ↑dn ↑bn))), (Value.bool (!decide ((s.askR (s.eraseOk ↑dn ↑bn)) = 0))), undef, (ptr L.bN 0), (ptr L.bN 0), (ptr L.bN 11), L.ub, (eN dn), (ixp L.ub dn), (sli (L.bk.getD dn 0) 0 ((s.ask (s.eraseOk ↑dn ↑bn)).gB) ((s.ask (s.eraseOk ↑dn ↑bn)).gB)), (eN bn), (ptr (L.bk.getD dn 0) (bn * 3)), (ptr (L.bk.getD dn 0) (bn * 3 + 1)), (eI (((s.ask (s.eraseOk ↑dn ↑bn)).bl dn bn).er)), (eI (IntKind.i64.wrap (((s.ask (s.eraseOk ↑dn ↑bn)).bl dn bn).er + 1))), (ptr (L.bk.getD dn 0) (bn * 3)), (ptr (L.bk.getD dn 0) (bn * 3 + 1)), (ptr L.bN 0), (Value.bool (((s.ask (s.eraseOk ↑dn ↑bn)).setB dn bn { (s.ask (s.eraseOk ↑dn ↑bn)).bl dn bn with er := IntKind.i64.wrap (((s.ask (s.eraseOk ↑dn ↑bn)).bl dn bn).er + 1) }).goesR)), (ptr L.bN 0), (ptr L.bN 0), (ptr L.bN 3), (Value.agg #[(eN ((((s.ask (s.eraseOk ↑dn ↑bn)).setB dn bn { (s.ask (s.eraseOk ↑dn ↑bn)).bl dn bn with er := IntKind.i64.wrap (((s.ask (s.eraseOk ↑dn ↑bn)).bl dn bn).er + 1) }).goes).gD)), (eN ((((s.ask (s.eraseOk ↑dn ↑bn)).setB dn bn { (s.ask (s.eraseOk ↑dn ↑bn)).bl dn bn with er := IntKind.i64.wrap (((s.ask (s.eraseOk ↑dn ↑bn)).bl dn bn).er + 1) }).goes).gB)), (eN ((((s.ask (s.eraseOk ↑dn ↑bn)).setB dn bn { (s.ask (s.eraseOk ↑dn ↑bn)).bl dn bn with er := IntKind.i64.wrap (((s.ask (s.eraseOk ↑dn ↑bn)).bl dn bn).er + 1) }).goes).gP)), (sli L.bD 0 ((((s.ask (s.eraseOk ↑dn ↑bn)).setB dn bn { (s.ask (s.eraseOk ↑dn ↑bn)).bl dn bn with er := IntKind.i64.wrap (((s.ask (s.eraseOk ↑dn ↑bn)).bl dn bn).er + 1) }).goes).n) ((((s.ask (s.eraseOk ↑dn ↑bn)).setB dn bn { (s.ask (s.eraseOk ↑dn ↑bn)).bl dn bn with er := IntKind.i64.wrap (((s.ask (s.eraseOk ↑dn ↑bn)).bl dn bn).er + 1) }).goes).n))]), (eN dn), (eN bn), (Value.func (.func 63) #[] #[(ptr b42 0), (ptr b43 0), (ptr b44 0)]), (eN pre.length), (ptr L.bD ((((s.ask (s.eraseOk ↑dn ↑bn)).setB dn bn { (s.ask (s.eraseOk ↑dn ↑bn)).bl dn bn with er := IntKind.i64.wrap (((s.ask (s.eraseOk ↑dn ↑bn)).bl dn bn).er + 1) }).goes).ix dn bn pre.length)), (Value.bool (((s.ask (s.eraseOk ↑dn ↑bn)).setB dn bn { (s.ask (s.eraseOk ↑dn ↑bn)).bl dn bn with er := IntKind.i64.wrap (((s.ask (s.eraseOk ↑dn ↑bn)).bl dn bn).er + 1) }).goesR)), (v55 0), (v55 1), (v55 2), (v55 3), (v55 4), (v55 5), (v55 6), (v55 7), (v55 8), (v55 9), (v55 10)] ++ (us 14))) (fun v55 => ([(ptr L.bN 0), (eN dn), (eN bn), (ptr nbx 0), undef, undef, (eN 0), (eN (s.askR (s.eraseOk ↑dn ↑bn))), (ptr tb 0), undef, (ptr L.bD ((((s.ask (s.eraseOk ↑dn ↑bn)).setB dn bn { (s.ask (s.eraseOk ↑dn ↑bn)).bl dn bn with er := IntKind.i64.wrap (((s.ask (s.eraseOk ↑dn ↑bn)).bl dn bn).er + 1) }).goes).ix dn bn pre.length)), (ptr L.bN 0), (ptr L.bN 0), (eN dn), (eN bn), vT, vT, (ptr L.bN 0), (eN dn), (eN bn), vF, vT, vT, (eN (s.askR (s.eraseOk ↑dn ↑bn))), (eN (s.askR (s.eraseOk ↑dn ↑bn))), (Value.bool (!decide ((s.askR (s.eraseOk ↑dn ↑bn)) = 0))), undef, (ptr L.bN 0), (ptr L.bN 0), (ptr L.bN 11), L.ub, (eN dn), (ixp L.ub dn), (sli (L.bk.getD dn 0) 0 ((s.ask (s.eraseOk ↑dn ↑bn)).gB) ((s.ask (s.eraseOk ↑dn ↑bn)).gB)), (eN bn), (ptr (L.bk.getD dn 0) (bn * 3)), (ptr (L.bk.getD dn 0) (bn * 3 + 1)), (eI (((s.ask (s.eraseOk ↑dn ↑bn)).bl dn bn).er)), (eI (IntKind.i64.wrap (((s.ask (s.eraseOk ↑dn ↑bn)).bl dn bn).er + 1))), (ptr (L.bk.getD dn 0) (bn * 3)), (ptr (L.bk.getD dn 0) (bn * 3 + 1)), (ptr L.bN 0), (Value.bool (((s.ask (s.eraseOk ↑dn ↑bn)).setB dn bn { (s.ask (s.eraseOk ↑dn ↑bn)).bl dn bn with er := IntKind.i64.wrap (((s.ask (s.eraseOk ↑dn ↑bn)).bl dn bn).er + 1) }).goesR)), (ptr L.bN 0), (ptr L.bN 0), (ptr L.bN 3), (Value.agg #[(eN ((((s.ask (s.eraseOk ↑dn ↑bn)).setB dn bn { (s.ask (s.eraseOk ↑dn ↑bn)).bl dn bn with er := IntKind.i64.wrap (((s.ask (s.eraseOk ↑dn ↑bn)).bl dn bn).er + 1) }).goes).gD)), (eN ((((s.ask (s.eraseOk ↑dn ↑bn)).setB dn bn { (s.ask (s.eraseOk ↑dn ↑bn)).bl dn bn with er := IntKind.i64.wrap (((s.ask (s.eraseOk ↑dn ↑bn)).bl dn bn).er + 1) }).goes).gB)), (eN ((((s.ask (s.eraseOk ↑dn ↑bn)).setB dn bn { (s.ask (s.eraseOk ↑dn ↑bn)).bl dn bn with er := IntKind.i64.wrap (((s.ask (s.eraseOk ↑dn ↑bn)).bl dn bn).er + 1) }).goes).gP)), (sli L.bD 0 ((((s.ask (s.eraseOk ↑dn ↑bn)).setB dn bn { (s.ask (s.eraseOk ↑dn ↑bn)).bl dn bn with er := IntKind.i64.wrap (((s.ask (s.eraseOk ↑dn ↑bn)).bl dn bn).er + 1) }).goes).n) ((((s.ask (s.eraseOk ↑dn ↑bn)).setB dn bn { (s.ask (s.eraseOk ↑dn ↑bn)).bl dn bn with er := IntKind.i64.wrap (((s.ask (s.eraseOk ↑dn ↑bn)).bl dn bn).er + 1) }).goes).n))]), (eN dn), (eN bn), (Value.func (.func 63) #[] #[(ptr b42 0), (ptr b43 0), (ptr b44 0)]), (eN pre.length), (ptr L.bD ((((s.ask (s.eraseOk ↑dn ↑bn)).setB dn bn { (s.ask (s.eraseOk ↑dn ↑bn)).bl dn bn with er := IntKind.i64.wrap (((s.ask (s.eraseOk ↑dn ↑bn)).bl dn bn).er + 1) }).goes).ix dn bn pre.length)), (Value.bool (((s.ask (s.eraseOk ↑dn ↑bn)).setB dn bn { (s.ask (s.eraseOk ↑dn ↑bn)).bl dn bn with er := IntKind.i64.wrap (((s.ask (s.eraseOk ↑dn ↑bn)).bl dn bn).er + 1) }).goesR)), (v55 0), (v55 1), (v55 2), (v55 3), (v55 4), (v55 5), (v55 6), (v55 7), (v55 8), (v55 9)] ++ (us 15))) s_mx kr rfl (by decide) (by rfl) kr kr kr (by rfl) (fun v_ => by kernel_rfl) (fun v_ => by kernel_rfl) (fun _ => fun w_ w2_ h ho => by obtain ⟨r_a13, r_a38, r_a50, r_a48, r_a49, r_aD_, r_aL_, r_hN⟩ := h; exact ⟨r_a13.step0 ho, r_a38.step0 ho, r_a50.step0 ho, r_a48.step0 ho, r_a49.step0 ho, r_aD_.step0 ho, r_aL_.step0 ho, r_hN.step0 ho⟩) ⟨a13, a38, a50, a48, a49, aD_, aL_, hN⟩ ?_ ?_ ?_
    ·
     refine ls_cons ?_ ?_
     ·
      intro v55 lo hi w_ k_ hO hd _ _ hk_ _ hR hold
      obtain ⟨r_a13, r_a38, r_a50, r_a48, r_a49, r_aD_, r_aL_, r_hN⟩ := hR
      clear hd hold
      refine ⟨_, rfl, gd rfl ?_⟩
      exact Does.is (d_move rfl)
     refine ls_cons ?_ ?_
     ·
      intro v55 lo hi w_ k_ hO hd _ _ hk_ _ hR hold
      obtain ⟨r_a13, r_a38, r_a50, r_a48, r_a49, r_aD_, r_aL_, r_hN⟩ := hR
      clear hd hold
      refine ⟨_, rfl, gd rfl ?_⟩
      exact Does.is (d_move rfl)
     refine ls_cons ?_ ?_
     ·
      intro v55 lo hi w_ k_ hO hd _ _ hk_ _ hR hold
      obtain ⟨r_a13, r_a38, r_a50, r_a48, r_a49, r_aD_, r_aL_, r_hN⟩ := hR
      have e1 : v55 1 = (ptr L.bD ((((s.ask (s.eraseOk ↑dn ↑bn)).setB dn bn { (s.ask (s.eraseOk ↑dn ↑bn)).bl dn bn with er := IntKind.i64.wrap (((s.ask (s.eraseOk ↑dn ↑bn)).bl dn bn).er + 1) }).goes).ix dn bn pre.length)) := hd 1 kr
      clear hd hold
      refine ⟨_, rfl, gd rfl ?_⟩
      exact Does.is (d_nilCheck (b := L.bD) (o := ((((s.ask (s.eraseOk ↑dn ↑bn)).setB dn bn { (s.ask (s.eraseOk ↑dn ↑bn)).bl dn bn with er := IntKind.i64.wrap (((s.ask (s.eraseOk ↑dn ↑bn)).bl dn bn).er + 1) }).goes).ix dn bn pre.length)) e1)
     refine ls_cons ?_ ?_
     ·
      intro v55 lo hi w_ k_ hO hd _ _ hk_ _ hR hold
      obtain ⟨r_a13, r_a38, r_a50, r_a48, r_a49, r_aD_, r_aL_, r_hN⟩ := hR
      have e2 : v55 2 = (ptr L.bD ((((s.ask (s.eraseOk ↑dn ↑bn)).setB dn bn { (s.ask (s.eraseOk ↑dn ↑bn)).bl dn bn with er := IntKind.i64.wrap (((s.ask (s.eraseOk ↑dn ↑bn)).bl dn bn).er + 1) }).goes).ix dn bn pre.length)) := hd 2 kr
      clear hd hold
      refine ⟨_, rfl, gd rfl ?_⟩
      refine Does.mono (nd_ldD (i := ((((s.ask (s.eraseOk ↑dn ↑bn)).setB dn bn { (s.ask (s.eraseOk ↑dn ↑bn)).bl dn bn with er := IntKind.i64.wrap (((s.ask (s.eraseOk ↑dn ↑bn)).bl dn bn).er + 1) }).goes).ix dn bn pre.length)) (Y := (Or1 L_ (Or1 D_ (Or1 b44 (Or1 b43 (Or1 b42 (Or1 tb (Or1 nbx (Ors L.S X))))))))) r_hN (xo_or1 (xo_or1 (xo_or1 (xo_or1 (xo_or1 (xo_or1 (xo_or1 xo_s))))))) ⟨_, Try.underlying36, rfl⟩ e2 (NS.ix_lt (by first | assumption | omega) (by first | assumption | omega) (by first | assumption | omega))) (fun u w' h => ⟨h.2 ▸ h.1, h.2 ▸ Only.refl _ _⟩)
     refine ls_cons ?_ ?_
     ·
      intro v55 lo hi w_ k_ hO hd _ _ hk_ _ hR hold
      obtain ⟨r_a13, r_a38, r_a50, r_a48, r_a49, r_aD_, r_aL_, r_hN⟩ := hR
      clear hd hold
      refine ⟨_, rfl, gd rfl ?_⟩
      refine Does.mono (R := ROw 5 eB onesW w_) ?_ (fun u w' h => ⟨(h.ps).1.less (or1_old r_aL_.lt (or1_old r_aD_.lt (or1_old r_a50.lt (or1_old r_a49.lt (or1_old r_a48.lt (or1_old r_a38.lt (or1_old r_a13.lt (ors_old r_hN.lt (old_old (Nat.le_trans oW.size hO.size)))))))))), (h.ps).2⟩)
      exact d_call (xl := []) (al := []) Try.func39 kr rfl rfl rfl (blank_ok _)
     refine ls_cons ?_ ?_
     ·
      intro v55 lo hi w_ k_ hO hd _ _ hk_ _ hR hold
      obtain ⟨r_a13, r_a38, r_a50, r_a48, r_a49, r_aD_, r_aL_, r_hN⟩ := hR
      clear hd hold
      refine ⟨_, rfl, gd rfl ?_⟩
      exact Does.is (d_load (v := (ptr L.bN 0)) ⟨_, Try.underlying27, rfl⟩ rfl r_a13 rfl)
     refine ls_cons ?_ ?_
     ·
      intro v55 lo hi w_ k_ hO hd _ _ hk_ _ hR hold
      obtain ⟨r_a13, r_a38, r_a50, r_a48, r_a49, r_aD_, r_aL_, r_hN⟩ := hR
      have e5 : v55 5 = (ptr L.bN 0) := hd 5 kr
      clear hd hold
      refine ⟨_, rfl, gd rfl ?_⟩
      exact Does.is (d_nilCheck (b := L.bN) (o := 0) e5)
     refine ls_cons ?_ ?_
     ·
      intro v55 lo hi w_ k_ hO hd _ _ hk_ _ hR hold
      obtain ⟨r_a13, r_a38, r_a50, r_a48, r_a49, r_aD_, r_aL_, r_hN⟩ := hR
      have e6 : v55 6 = (ptr L.bN 0) := hd 6 kr
      clear hd hold
      refine ⟨_, rfl, gd rfl ?_⟩
      exact Does.is (d_fieldAddr (j := 13) Try.underlying73 rfl s_ti36 (by decide) e6 rfl)
     refine ls_cons ?_ ?_
     ·
      intro v55 lo hi w_ k_ hO hd _ _ hk_ _ hR hold
      obtain ⟨r_a13, r_a38, r_a50, r_a48, r_a49, r_aD_, r_aL_, r_hN⟩ := hR
      have e7 : v55 7 = (ptr L.bN 13) := hd 7 kr
      clear hd hold
      refine ⟨_, rfl, gd rfl ?_⟩
      refine Does.mono (nd_ldm (Y := (Or1 L_ (Or1 D_ (Or1 b44 (Or1 b43 (Or1 b42 (Or1 tb (Or1 nbx (Ors L.S X))))))))) r_hN (xo_or1 (xo_or1 (xo_or1 (xo_or1 (xo_or1 (xo_or1 (xo_or1 xo_s))))))) ⟨_, Try.underlying36, rfl⟩ e7) (fun u w' h => ⟨h.2 ▸ h.1, h.2 ▸ Only.refl _ _⟩)
     refine ls_cons ?_ ?_
     ·
      intro v55 lo hi w_ k_ hO hd _ _ hk_ _ hR hold
      obtain ⟨r_a13, r_a38, r_a50, r_a48, r_a49, r_aD_, r_aL_, r_hN⟩ := hR
      have d3 : Ps (Or1 L_ (Or1 D_ (Or1 b44 (Or1 b43 (Or1 b42 (Or1 tb (Or1 nbx (Ors L.S X)))))))) (Seq kB (((((s.ask (s.eraseOk ↑dn ↑bn)).setB dn bn { (s.ask (s.eraseOk ↑dn ↑bn)).bl dn bn with er := IntKind.i64.wrap (((s.ask (s.eraseOk ↑dn ↑bn)).bl dn bn).er + 1) }).goes).eraseTo (((s.ask (s.eraseOk ↑dn ↑bn)).setB dn bn { (s.ask (s.eraseOk ↑dn ↑bn)).bl dn bn with er := IntKind.i64.wrap (((s.ask (s.eraseOk ↑dn ↑bn)).bl dn bn).er + 1) }).goesR) dn bn pre.length).dl ((((s.ask (s.eraseOk ↑dn ↑bn)).setB dn bn { (s.ask (s.eraseOk ↑dn ↑bn)).bl dn bn with er := IntKind.i64.wrap (((s.ask (s.eraseOk ↑dn ↑bn)).bl dn bn).er + 1) }).goes).ix dn bn pre.length)) (v55 3)) w_ := hd 3 kr
      have d4 : Ps (Or1 L_ (Or1 D_ (Or1 b44 (Or1 b43 (Or1 b42 (Or1 tb (Or1 nbx (Ors L.S (Old W.heap.size))))))))) (Seq kB onesW (v55 4)) w_ := hd 4 kr
      have d8 : Ps (Or1 L_ (Or1 D_ (Or1 b44 (Or1 b43 (Or1 b42 (Or1 tb (Or1 nbx (Ors L.S X)))))))) (Seq kB (((((s.ask (s.eraseOk ↑dn ↑bn)).setB dn bn { (s.ask (s.eraseOk ↑dn ↑bn)).bl dn bn with er := IntKind.i64.wrap (((s.ask (s.eraseOk ↑dn ↑bn)).bl dn bn).er + 1) }).goes).eraseTo (((s.ask (s.eraseOk ↑dn ↑bn)).setB dn bn { (s.ask (s.eraseOk ↑dn ↑bn)).bl dn bn with er := IntKind.i64.wrap (((s.ask (s.eraseOk ↑dn ↑bn)).bl dn bn).er + 1) }).goesR) dn bn pre.length).mask) (v55 8)) w_ := hd 8 kr
      clear hd hold
      refine ⟨_, rfl, gd rfl ?_⟩
      refine Does.mono (R := ROw 5 eB (mixR (((((s.ask (s.eraseOk ↑dn ↑bn)).setB dn bn { (s.ask (s.eraseOk ↑dn ↑bn)).bl dn bn with er := IntKind.i64.wrap (((s.ask (s.eraseOk ↑dn ↑bn)).bl dn bn).er + 1) }).goes).eraseTo (((s.ask (s.eraseOk ↑dn ↑bn)).setB dn bn { (s.ask (s.eraseOk ↑dn ↑bn)).bl dn bn with er := IntKind.i64.wrap (((s.ask (s.eraseOk ↑dn ↑bn)).bl dn bn).er + 1) }).goesR) dn bn pre.length).dl ((((s.ask (s.eraseOk ↑dn ↑bn)).setB dn bn { (s.ask (s.eraseOk ↑dn ↑bn)).bl dn bn with er := IntKind.i64.wrap (((s.ask (s.eraseOk ↑dn ↑bn)).bl dn bn).er + 1) }).goes).ix dn bn pre.length)) onesW (((((s.ask (s.eraseOk ↑dn ↑bn)).setB dn bn { (s.ask (s.eraseOk ↑dn ↑bn)).bl dn bn with er := IntKind.i64.wrap (((s.ask (s.eraseOk ↑dn ↑bn)).bl dn bn).er + 1) }).goes).eraseTo (((s.ask (s.eraseOk ↑dn ↑bn)).setB dn bn { (s.ask (s.eraseOk ↑dn ↑bn)).bl dn bn with er := IntKind.i64.wrap (((s.ask (s.eraseOk ↑dn ↑bn)).bl dn bn).er + 1) }).goesR) dn bn pre.length).mask)) w_) ?_ (fun u w' h => ⟨(h.ps).1.less (or1_old r_aL_.lt (or1_old r_aD_.lt (or1_old r_a50.lt (or1_old r_a49.lt (or1_old r_a48.lt (or1_old r_a38.lt (or1_old r_a13.lt (ors_old r_hN.lt (old_old (Nat.le_trans oW.size hO.size)))))))))), (h.ps).2⟩)
      exact d_call (xl := [.tmp 56, .tmp 57, .tmp 61]) (al := [(v55 3), (v55 4), (v55 8)]) Try.func50 kr rfl rfl rfl (bitsMix_ok (((((s.ask (s.eraseOk ↑dn ↑bn)).setB dn bn { (s.ask (s.eraseOk ↑dn ↑bn)).bl dn bn with er := IntKind.i64.wrap (((s.ask (s.eraseOk ↑dn ↑bn)).bl dn bn).er + 1) }).goes).eraseTo (((s.ask (s.eraseOk ↑dn ↑bn)).setB dn bn { (s.ask (s.eraseOk ↑dn ↑bn)).bl dn bn with er := IntKind.i64.wrap (((s.ask (s.eraseOk ↑dn ↑bn)).bl dn bn).er + 1) }).goesR) dn bn pre.length).dl ((((s.ask (s.eraseOk ↑dn ↑bn)).setB dn bn { (s.ask (s.eraseOk ↑dn ↑bn)).bl dn bn with er := IntKind.i64.wrap (((s.ask (s.eraseOk ↑dn ↑bn)).bl dn bn).er + 1) }).goes).ix dn bn pre.length)) onesW (((((s.ask (s.eraseOk ↑dn ↑bn)).setB dn bn { (s.ask (s.eraseOk ↑dn ↑bn)).bl dn bn with er := IntKind.i64.wrap (((s.ask (s.eraseOk ↑dn ↑bn)).bl dn bn).er + 1) }).goes).eraseTo (((s.ask (s.eraseOk ↑dn ↑bn)).setB dn bn { (s.ask (s.eraseOk ↑dn ↑bn)).bl dn bn with er := IntKind.i64.wrap (((s.ask (s.eraseOk ↑dn ↑bn)).bl dn bn).er + 1) }).goesR) dn bn pre.length).mask) (v55 3) (v55 4) (v55 8) _ (Ps.no d3) (Ps.no d4) (Ps.no d8) fo (by have := onesW_len; first | omega | (simp; done) | (simp; omega)) fo)
     exact ls_nil
    ·
     exact ms_nil
    intro v55 lo_ hi_ w56 o57 hd iv_ hR
    have e0 : v55 0 = (ptr L.bD ((((s.ask (s.eraseOk ↑dn ↑bn)).setB dn bn { (s.ask (s.eraseOk ↑dn ↑bn)).bl dn bn with er := IntKind.i64.wrap (((s.ask (s.eraseOk ↑dn ↑bn)).bl dn bn).er + 1) }).goes).ix dn bn pre.length)) := hd 0 (by decide)
    have e1 : v55 1 = (ptr L.bD ((((s.ask (s.eraseOk ↑dn ↑bn)).setB dn bn { (s.ask (s.eraseOk ↑dn ↑bn)).bl dn bn with er := IntKind.i64.wrap (((s.ask (s.eraseOk ↑dn ↑bn)).bl dn bn).er + 1) }).goes).ix dn bn pre.length)) := hd 1 (by decide)
    have e2 : v55 2 = (ptr L.bD ((((s.ask (s.eraseOk ↑dn ↑bn)).setB dn bn { (s.ask (s.eraseOk ↑dn ↑bn)).bl dn bn with er := IntKind.i64.wrap (((s.ask (s.eraseOk ↑dn ↑bn)).bl dn bn).er + 1) }).goes).ix dn bn pre.length)) := hd 2 (by decide)
    have e5 : v55 5 = (ptr L.bN 0) := hd 5 (by decide)
    have e6 : v55 6 = (ptr L.bN 0) := hd 6 (by decide)
    have e7 : v55 7 = (ptr L.bN 13) := hd 7 (by decide)
    have f_v55_3 : Ps (Or1 L_ (Or1 D_ (Or1 b44 (Or1 b43 (Or1 b42 (Or1 tb (Or1 nbx (Ors L.S X)))))))) (Seq kB (((((s.ask (s.eraseOk ↑dn ↑bn)).setB dn bn { (s.ask (s.eraseOk ↑dn ↑bn)).bl dn bn with er := IntKind.i64.wrap (((s.ask (s.eraseOk ↑dn ↑bn)).bl dn bn).er + 1) }).goes).eraseTo (((s.ask (s.eraseOk ↑dn ↑bn)).setB dn bn { (s.ask (s.eraseOk ↑dn ↑bn)).bl dn bn with er := IntKind.i64.wrap (((s.ask (s.eraseOk ↑dn ↑bn)).bl dn bn).er + 1) }).goesR) dn bn pre.length).dl ((((s.ask (s.eraseOk ↑dn ↑bn)).setB dn bn { (s.ask (s.eraseOk ↑dn ↑bn)).bl dn bn with er := IntKind.i64.wrap (((s.ask (s.eraseOk ↑dn ↑bn)).bl dn bn).er + 1) }).goes).ix dn bn pre.length)) (v55 3)) w56 := hd 3 (by decide)
    have f_v55_4 : Ps (Or1 L_ (Or1 D_ (Or1 b44 (Or1 b43 (Or1 b42 (Or1 tb (Or1 nbx (Ors L.S (Old W.heap.size))))))))) (Seq kB onesW (v55 4)) w56 := hd 4 (by decide)
    have f_v55_8 : Ps (Or1 L_ (Or1 D_ (Or1 b44 (Or1 b43 (Or1 b42 (Or1 tb (Or1 nbx (Ors L.S X)))))))) (Seq kB (((((s.ask (s.eraseOk ↑dn ↑bn)).setB dn bn { (s.ask (s.eraseOk ↑dn ↑bn)).bl dn bn with er := IntKind.i64.wrap (((s.ask (s.eraseOk ↑dn ↑bn)).bl dn bn).er + 1) }).goes).eraseTo (((s.ask (s.eraseOk ↑dn ↑bn)).setB dn bn { (s.ask (s.eraseOk ↑dn ↑bn)).bl dn bn with er := IntKind.i64.wrap (((s.ask (s.eraseOk ↑dn ↑bn)).bl dn bn).er + 1) }).goesR) dn bn pre.length).mask) (v55 8)) w56 := hd 8 (by decide)
    have f_v55_9 : Ps (Or1 L_ (Or1 D_ (Or1 b44 (Or1 b43 (Or1 b42 (Or1 tb (Or1 nbx (Ors L.S (Old W.heap.size))))))))) (Seq kB (mixR (((((s.ask (s.eraseOk ↑dn ↑bn)).setB dn bn { (s.ask (s.eraseOk ↑dn ↑bn)).bl dn bn with er := IntKind.i64.wrap (((s.ask (s.eraseOk ↑dn ↑bn)).bl dn bn).er + 1) }).goes).eraseTo (((s.ask (s.eraseOk ↑dn ↑bn)).setB dn bn { (s.ask (s.eraseOk ↑dn ↑bn)).bl dn bn with er := IntKind.i64.wrap (((s.ask (s.eraseOk ↑dn ↑bn)).bl dn bn).er + 1) }).goesR) dn bn pre.length).dl ((((s.ask (s.eraseOk ↑dn ↑bn)).setB dn bn { (s.ask (s.eraseOk ↑dn ↑bn)).bl dn bn with er := IntKind.i64.wrap (((s.ask (s.eraseOk ↑dn ↑bn)).bl dn bn).er + 1) }).goes).ix dn bn pre.length)) onesW (((((s.ask (s.eraseOk ↑dn ↑bn)).setB dn bn { (s.ask (s.eraseOk ↑dn ↑bn)).bl dn bn with er := IntKind.i64.wrap (((s.ask (s.eraseOk ↑dn ↑bn)).bl dn bn).er + 1) }).goes).eraseTo (((s.ask (s.eraseOk ↑dn ↑bn)).setB dn bn { (s.ask (s.eraseOk ↑dn ↑bn)).bl dn bn with er := IntKind.i64.wrap (((s.ask (s.eraseOk ↑dn ↑bn)).bl dn bn).er + 1) }).goesR) dn bn pre.length).mask)) (v55 9)) w56 := hd 9 (by decide)
    clear hd iv_ lo_ hi_
    refine wpL.flat ([(ptr L.bN 0), (eN dn), (eN bn), (ptr nbx 0), undef, undef, (eN 0), (eN (s.askR (s.eraseOk ↑dn ↑bn))), (ptr tb 0), undef, (ptr L.bD ((((s.ask (s.eraseOk ↑dn ↑bn)).setB dn bn { (s.ask (s.eraseOk ↑dn ↑bn)).bl dn bn with er := IntKind.i64.wrap (((s.ask (s.eraseOk ↑dn ↑bn)).bl dn bn).er + 1) }).goes).ix dn bn pre.length)), (ptr L.bN 0), (ptr L.bN 0), (eN dn), (eN bn), vT, vT, (ptr L.bN 0), (eN dn), (eN bn), vF, vT, vT, (eN (s.askR (s.eraseOk ↑dn ↑bn))), (eN (s.askR (s.eraseOk ↑dn ↑bn))), (Value.bool (!decide ((s.askR (s.eraseOk ↑dn ↑bn)) = 0))), undef, (ptr L.bN 0), (ptr L.bN 0), (ptr L.bN 11), L.ub, (eN dn), (ixp L.ub dn), (sli (L.bk.getD dn 0) 0 ((s.ask (s.eraseOk ↑dn ↑bn)).gB) ((s.ask (s.eraseOk ↑dn ↑bn)).gB)), (eN bn), (ptr (L.bk.getD dn 0) (bn * 3)), (ptr (L.bk.getD dn 0) (bn * 3 + 1)), (eI (((s.ask (s.eraseOk ↑dn ↑bn)).bl dn bn).er)), (eI (IntKind.i64.wrap (((s.ask (s.eraseOk ↑dn ↑bn)).bl dn bn).er + 1))), (ptr (L.bk.getD dn 0) (bn * 3)), (ptr (L.bk.getD dn 0) (bn * 3 + 1)), (ptr L.bN 0), (Value.bool (((s.ask (s.eraseOk ↑dn ↑bn)).setB dn bn { (s.ask (s.eraseOk ↑dn ↑bn)).bl dn bn with er := IntKind.i64.wrap (((s.ask (s.eraseOk ↑dn ↑bn)).bl dn bn).er + 1) }).goesR)), (ptr L.bN 0), (ptr L.bN 0), (ptr L.bN 3), (Value.agg #[(eN ((((s.ask (s.eraseOk ↑dn ↑bn)).setB dn bn { (s.ask (s.eraseOk ↑dn ↑bn)).bl dn bn with er := IntKind.i64.wrap (((s.ask (s.eraseOk ↑dn ↑bn)).bl dn bn).er + 1) }).goes).gD)), (eN ((((s.ask (s.eraseOk ↑dn ↑bn)).setB dn bn { (s.ask (s.eraseOk ↑dn ↑bn)).bl dn bn with er := IntKind.i64.wrap (((s.ask (s.eraseOk ↑dn ↑bn)).bl dn bn).er + 1) }).goes).gB)), (eN ((((s.ask (s.eraseOk ↑dn ↑bn)).setB dn bn { (s.ask (s.eraseOk ↑dn ↑bn)).bl dn bn with er := IntKind.i64.wrap (((s.ask (s.eraseOk ↑dn ↑bn)).bl dn bn).er + 1) }).goes).gP)), (sli L.bD 0 ((((s.ask (s.eraseOk ↑dn ↑bn)).setB dn bn { (s.ask (s.eraseOk ↑dn ↑bn)).bl dn bn with er := IntKind.i64.wrap (((s.ask (s.eraseOk ↑dn ↑bn)).bl dn bn).er + 1) }).goes).n) ((((s.ask (s.eraseOk ↑dn ↑bn)).setB dn bn { (s.ask (s.eraseOk ↑dn ↑bn)).bl dn bn with er := IntKind.i64.wrap (((s.ask (s.eraseOk ↑dn ↑bn)).bl dn bn).er + 1) }).goes).n))]), (eN dn), (eN bn), (Value.func (.func 63) #[] #[(ptr b42 0), (ptr b43 0), (ptr b44 0)]), (eN pre.length), (ptr L.bD ((((s.ask (s.eraseOk ↑dn ↑bn)).setB dn bn { (s.ask (s.eraseOk ↑dn ↑bn)).bl dn bn with er := IntKind.i64.wrap (((s.ask (s.eraseOk ↑dn ↑bn)).bl dn bn).er + 1) }).goes).ix dn bn pre.length)), (Value.bool (((s.ask (s.eraseOk ↑dn ↑bn)).setB dn bn { (s.ask (s.eraseOk ↑dn ↑bn)).bl dn bn with er := IntKind.i64.wrap (((s.ask (s.eraseOk ↑dn ↑bn)).bl dn bn).er + 1) }).goesR)), (ptr L.bD ((((s.ask (s.eraseOk ↑dn ↑bn)).setB dn bn { (s.ask (s.eraseOk ↑dn ↑bn)).bl dn bn with er := IntKind.i64.wrap (((s.ask (s.eraseOk ↑dn ↑bn)).bl dn bn).er + 1) }).goes).ix dn bn pre.length)), (ptr L.bD ((((s.ask (s.eraseOk ↑dn ↑bn)).setB dn bn { (s.ask (s.eraseOk ↑dn ↑bn)).bl dn bn with er := IntKind.i64.wrap (((s.ask (s.eraseOk ↑dn ↑bn)).bl dn bn).er + 1) }).goes).ix dn bn pre.length)), (ptr L.bD ((((s.ask (s.eraseOk ↑dn ↑bn)).setB dn bn { (s.ask (s.eraseOk ↑dn ↑bn)).bl dn bn with er := IntKind.i64.wrap (((s.ask (s.eraseOk ↑dn ↑bn)).bl dn bn).er + 1) }).goes).ix dn bn pre.length)), (v55 3), (v55 4), (ptr L.bN 0), (ptr L.bN 0), (ptr L.bN 13), (v55 8), (v55 9)] ++ (us 15)) (by rw [e0, e1, e2, e5, e6, e7] <;> rfl) ?_
    clear e0 e1 e2 e5 e6 e7
    obtain ⟨xr_a13, xr_a38, xr_a50, xr_a48, xr_a49, xr_aD_, xr_aL_, xr_hN⟩ := hR
    replace a13 : Arr 27 nbx [(ptr L.bN 0)] w56 := xr_a13
    replace a38 : Arr 4 tb [(Value.bool (((s.ask (s.eraseOk ↑dn ↑bn)).setB dn bn { (s.ask (s.eraseOk ↑dn ↑bn)).bl dn bn with er := IntKind.i64.wrap (((s.ask (s.eraseOk ↑dn ↑bn)).bl dn bn).er + 1) }).goesR))] w56 := xr_a38
    replace a50 : Arr 3 b44 [(eN bn)] w56 := xr_a50
    replace a48 : Arr 65 b42 [(eN ((((s.ask (s.eraseOk ↑dn ↑bn)).setB dn bn { (s.ask (s.eraseOk ↑dn ↑bn)).bl dn bn with er := IntKind.i64.wrap (((s.ask (s.eraseOk ↑dn ↑bn)).bl dn bn).er + 1) }).goes).gD)), (eN ((((s.ask (s.eraseOk ↑dn ↑bn)).setB dn bn { (s.ask (s.eraseOk ↑dn ↑bn)).bl dn bn with er := IntKind.i64.wrap (((s.ask (s.eraseOk ↑dn ↑bn)).bl dn bn).er + 1) }).goes).gB)), (eN ((((s.ask (s.eraseOk ↑dn ↑bn)).setB dn bn { (s.ask (s.eraseOk ↑dn ↑bn)).bl dn bn with er := IntKind.i64.wrap (((s.ask (s.eraseOk ↑dn ↑bn)).bl dn bn).er + 1) }).goes).gP)), (sli L.bD 0 ((((s.ask (s.eraseOk ↑dn ↑bn)).setB dn bn { (s.ask (s.eraseOk ↑dn ↑bn)).bl dn bn with er := IntKind.i64.wrap (((s.ask (s.eraseOk ↑dn ↑bn)).bl dn bn).er + 1) }).goes).n) ((((s.ask (s.eraseOk ↑dn ↑bn)).setB dn bn { (s.ask (s.eraseOk ↑dn ↑bn)).bl dn bn with er := IntKind.i64.wrap (((s.ask (s.eraseOk ↑dn ↑bn)).bl dn bn).er + 1) }).goes).n))] w56 := xr_a48
    replace a49 : Arr 3 b43 [(eN dn)] w56 := xr_a49
    replace aD_ : Dead D_ w56 := xr_aD_
    replace aL_ : Dead L_ w56 := xr_aL_
    replace hN := xr_hN
    clear xr_a13 xr_a38 xr_a50 xr_a48 xr_a49 xr_aD_ xr_aL_ xr_hN
    replace oW := oW.tail o57 (tl_new g_oW_tb (tl_new g_oW_nbx (tl_sin (fun k h => h) tl_no)))
    replace o54 := o54.tail o57 (tl_in in1 (tl_in (in2 in1) (tl_sin (sub2 (sub2 sub1)) tl_no)))
    replace oR_ := oR_.tail o57 (tl_in (Or.inl in1) (tl_in (Or.inl (in2 in1)) (tl_sin (fun k h => Or.inl ((sub2 (sub2 sub1)) k h)) tl_no)))
    refine wI (d_nilCheck (b := L.bD) (o := ((((s.ask (s.eraseOk ↑dn ↑bn)).setB dn bn { (s.ask (s.eraseOk ↑dn ↑bn)).bl dn bn with er := IntKind.i64.wrap (((s.ask (s.eraseOk ↑dn ↑bn)).bl dn bn).er + 1) }).goes).ix dn bn pre.length)) rfl) ?_
    refine wO (nd_stD (i := ((((s.ask (s.eraseOk ↑dn ↑bn)).setB dn bn { (s.ask (s.eraseOk ↑dn ↑bn)).bl dn bn with er := IntKind.i64.wrap (((s.ask (s.eraseOk ↑dn ↑bn)).bl dn bn).er + 1) }).goes).ix dn bn pre.length)) (Y := (Or1 L_ (Or1 D_ (Or1 b44 (Or1 b43 (Or1 b42 (Or1 tb (Or1 nbx (Ors L.S X))))))))) (l := (mixR (((((s.ask (s.eraseOk ↑dn ↑bn)).setB dn bn { (s.ask (s.eraseOk ↑dn ↑bn)).bl dn bn with er := IntKind.i64.wrap (((s.ask (s.eraseOk ↑dn ↑bn)).bl dn bn).er + 1) }).goes).eraseTo (((s.ask (s.eraseOk ↑dn ↑bn)).setB dn bn { (s.ask (s.eraseOk ↑dn ↑bn)).bl dn bn with er := IntKind.i64.wrap (((s.ask (s.eraseOk ↑dn ↑bn)).bl dn bn).er + 1) }).goesR) dn bn pre.length).dl ((((s.ask (s.eraseOk ↑dn ↑bn)).setB dn bn { (s.ask (s.eraseOk ↑dn ↑bn)).bl dn bn with er := IntKind.i64.wrap (((s.ask (s.eraseOk ↑dn ↑bn)).bl dn bn).er + 1) }).goes).ix dn bn pre.length)) onesW (((((s.ask (s.eraseOk ↑dn ↑bn)).setB dn bn { (s.ask (s.eraseOk ↑dn ↑bn)).bl dn bn with er := IntKind.i64.wrap (((s.ask (s.eraseOk ↑dn ↑bn)).bl dn bn).er + 1) }).goes).eraseTo (((s.ask (s.eraseOk ↑dn ↑bn)).setB dn bn { (s.ask (s.eraseOk ↑dn ↑bn)).bl dn bn with er := IntKind.i64.wrap (((s.ask (s.eraseOk ↑dn ↑bn)).bl dn bn).er + 1) }).goesR) dn bn pre.length).mask))) hN (ox_or1 (ox_or1 (ox_or1 (ox_or1 (ox_or1 (ox_or1 (ox_or1 ox_s))))))) s_ti36 rfl rfl (f_v55_9.less (Y := (Or1 L_ (Or1 D_ (Or1 b44 (Or1 b43 (Or1 b42 (Or1 tb (Or1 nbx (Ors L.S X))))))))) (xx_or1 (xx_or1 (xx_or1 (xx_or1 (xx_or1 (xx_or1 (xx_or1 (xx_ors (lt_old hX)))))))))) (NS.ix_lt (by first | assumption | omega) (by first | assumption | omega) (by first | assumption | omega)) (mixR60 l1_ onesW_len)) ?_
    rintro _ w58 ⟨a59, o60⟩
    replace a13 := a13.step o60 (hN.dis _ (in2 (in2 (in2 (in2 (in2 (in2 in1)))))))
    replace a38 := a38.step o60 (hN.dis _ (in2 (in2 (in2 (in2 (in2 in1))))))
    replace a50 := a50.step o60 (hN.dis _ (in2 (in2 in1)))
    replace a48 := a48.step o60 (hN.dis _ (in2 (in2 (in2 (in2 in1)))))
    replace a49 := a49.step o60 (hN.dis _ (in2 (in2 (in2 in1))))
    replace aD_ := aD_.step o60 (hN.dis _ (in2 in1))
    replace aL_ := aL_.step o60 (hN.dis _ in1)
    replace f_v55_3 := f_v55_3.step o60 (sub2 (sub2 (sub2 (sub2 (sub2 (sub2 (sub2 sub1)))))))
    replace f_v55_4 := f_v55_4.step o60 (sub2 (sub2 (sub2 (sub2 (sub2 (sub2 (sub2 sub1)))))))
    replace f_v55_8 := f_v55_8.step o60 (sub2 (sub2 (sub2 (sub2 (sub2 (sub2 (sub2 sub1)))))))
    replace f_v55_9 := f_v55_9.step o60 (sub2 (sub2 (sub2 (sub2 (sub2 (sub2 (sub2 sub1)))))))
    replace oW := oW.tail o60 (fun k _ e => (fun k h => h) k e)
    replace o54 := o54.tail o60 (fun k _ e => (sub2 (sub2 sub1)) k e)
    replace oR_ := oR_.tail o60 (fun k _ e => (fun k h => Or.inl ((sub2 (sub2 sub1)) k h)) k e)
    replace hN := a59
    refine wF ([(ptr L.bN 0), (eN dn), (eN bn), (ptr nbx 0), undef, undef, (eN 0), (eN (s.askR (s.eraseOk ↑dn ↑bn))), (ptr tb 0), undef, (ptr L.bD ((((s.ask (s.eraseOk ↑dn ↑bn)).setB dn bn { (s.ask (s.eraseOk ↑dn ↑bn)).bl dn bn with er := IntKind.i64.wrap (((s.ask (s.eraseOk ↑dn ↑bn)).bl dn bn).er + 1) }).goes).ix dn bn pre.length)), (ptr L.bN 0), (ptr L.bN 0), (eN dn), (eN bn), vT, vT, (ptr L.bN 0), (eN dn), (eN bn), vF, vT, vT, (eN (s.askR (s.eraseOk ↑dn ↑bn))), (eN (s.askR (s.eraseOk ↑dn ↑bn))), (Value.bool (!decide ((s.askR (s.eraseOk ↑dn ↑bn)) = 0))), undef, (ptr L.bN 0), (ptr L.bN 0), (ptr L.bN 11), L.ub, (eN dn), (ixp L.ub dn), (sli (L.bk.getD dn 0) 0 ((s.ask (s.eraseOk ↑dn ↑bn)).gB) ((s.ask (s.eraseOk ↑dn ↑bn)).gB)), (eN bn), (ptr (L.bk.getD dn 0) (bn * 3)), (ptr (L.bk.getD dn 0) (bn * 3 + 1)), (eI (((s.ask (s.eraseOk ↑dn ↑bn)).bl dn bn).er)), (eI (IntKind.i64.wrap (((s.ask (s.eraseOk ↑dn ↑bn)).bl dn bn).er + 1))), (ptr (L.bk.getD dn 0) (bn * 3)), (ptr (L.bk.getD dn 0) (bn * 3 + 1)), (ptr L.bN 0), (Value.bool (((s.ask (s.eraseOk ↑dn ↑bn)).setB dn bn { (s.ask (s.eraseOk ↑dn ↑bn)).bl dn bn with er := IntKind.i64.wrap (((s.ask (s.eraseOk ↑dn ↑bn)).bl dn bn).er + 1) }).goesR)), (ptr L.bN 0), (ptr L.bN 0), (ptr L.bN 3), (Value.agg #[(eN ((((s.ask (s.eraseOk ↑dn ↑bn)).setB dn bn { (s.ask (s.eraseOk ↑dn ↑bn)).bl dn bn with er := IntKind.i64.wrap (((s.ask (s.eraseOk ↑dn ↑bn)).bl dn bn).er + 1) }).goes).gD)), (eN ((((s.ask (s.eraseOk ↑dn ↑bn)).setB dn bn { (s.ask (s.eraseOk ↑dn ↑bn)).bl dn bn with er := IntKind.i64.wrap (((s.ask (s.eraseOk ↑dn ↑bn)).bl dn bn).er + 1) }).goes).gB)), (eN ((((s.ask (s.eraseOk ↑dn ↑bn)).setB dn bn { (s.ask (s.eraseOk ↑dn ↑bn)).bl dn bn with er := IntKind.i64.wrap (((s.ask (s.eraseOk ↑dn ↑bn)).bl dn bn).er + 1) }).goes).gP)), (sli L.bD 0 ((((s.ask (s.eraseOk ↑dn ↑bn)).setB dn bn { (s.ask (s.eraseOk ↑dn ↑bn)).bl dn bn with er := IntKind.i64.wrap (((s.ask (s.eraseOk ↑dn ↑bn)).bl dn bn).er + 1) }).goes).n) ((((s.ask (s.eraseOk ↑dn ↑bn)).setB dn bn { (s.ask (s.eraseOk ↑dn ↑bn)).bl dn bn with er := IntKind.i64.wrap (((s.ask (s.eraseOk ↑dn ↑bn)).bl dn bn).er + 1) }).goes).n))]), (eN dn), (eN bn), (Value.func (.func 63) #[] #[(ptr b42 0), (ptr b43 0), (ptr b44 0)]), (eN pre.length), (ptr L.bD ((((s.ask (s.eraseOk ↑dn ↑bn)).setB dn bn { (s.ask (s.eraseOk ↑dn ↑bn)).bl dn bn with er := IntKind.i64.wrap (((s.ask (s.eraseOk ↑dn ↑bn)).bl dn bn).er + 1) }).goes).ix dn bn pre.length)), (Value.bool (((s.ask (s.eraseOk ↑dn ↑bn)).setB dn bn { (s.ask (s.eraseOk ↑dn ↑bn)).bl dn bn with er := IntKind.i64.wrap (((s.ask (s.eraseOk ↑dn ↑bn)).bl dn bn).er + 1) }).goesR)), (ptr L.bD ((((s.ask (s.eraseOk ↑dn ↑bn)).setB dn bn { (s.ask (s.eraseOk ↑dn ↑bn)).bl dn bn with er := IntKind.i64.wrap (((s.ask (s.eraseOk ↑dn ↑bn)).bl dn bn).er + 1) }).goes).ix dn bn pre.length)), (ptr L.bD ((((s.ask (s.eraseOk ↑dn ↑bn)).setB dn bn { (s.ask (s.eraseOk ↑dn ↑bn)).bl dn bn with er := IntKind.i64.wrap (((s.ask (s.eraseOk ↑dn ↑bn)).bl dn bn).er + 1) }).goes).ix dn bn pre.length)), (ptr L.bD ((((s.ask (s.eraseOk ↑dn ↑bn)).setB dn bn { (s.ask (s.eraseOk ↑dn ↑bn)).bl dn bn with er := IntKind.i64.wrap (((s.ask (s.eraseOk ↑dn ↑bn)).bl dn bn).er + 1) }).goes).ix dn bn pre.length)), (v55 3), (v55 4), (ptr L.bN 0), (ptr L.bN 0), (ptr L.bN 13), (v55 8), (v55 9), (ptr L.bD ((((s.ask (s.eraseOk ↑dn ↑bn)).setB dn bn { (s.ask (s.eraseOk ↑dn ↑bn)).bl dn bn with er := IntKind.i64.wrap (((s.ask (s.eraseOk ↑dn ↑bn)).bl dn bn).er + 1) }).goes).ix dn bn pre.length))] ++ (us 14)) ?_
    refine wD ?_
    refine inb_n ?_
    refine ⟨oR_, ?_, ?_, ?_, ?_, ?_, ?_, ?_⟩
    ·
     exact o54
    ·
     exact a13
    ·
     exact a38
    ·
     exact a50
    ·
     exact a48
    ·
     exact a49
    ·
     (try dsimp only)
     all_goals (exact (by rw [List.length_append, List.length_singleton]; exact nd_to (hN.less (xx_or1 (xx_or1 (xx_or1 (xx_or1 (xx_or1 (xx_or1 (xx_or1 xx_id)))))))) (NS.eraseTo_next _ _ _ _ _ ((if_pos c1).trans (congrArg (fun x_ => mixR x_ onesW _) (NS.eraseTo_dl _ _ _ _ _).symm)))))
   refine pL ?_
   refine wI (d_move rfl) ?_
   refine wO (d_call (xl := []) (al := []) Try.func39 kr rfl rfl rfl (blank_ok _)) ?_
   rintro u63 w61 f64
   replace f64 := f64.ps
   obtain ⟨f64, o62⟩ := f64
   replace f64 := f64.less (Y := (Or1 L_ (Or1 D_ (Or1 b44 (Or1 b43 (Or1 b42 (Or1 tb (Or1 nbx (Ors L.S (Old W.heap.size)))))))))) (or1_old aL_.lt (or1_old aD_.lt (or1_old a50.lt (or1_old a49.lt (or1_old a48.lt (or1_old a38.lt (or1_old a13.lt (ors_old hN.lt (old_old oW.size)))))))))
   replace hN := hN.step0 o62
   replace a13 := a13.step0 o62
   replace a38 := a38.step0 o62
   replace a50 := a50.step0 o62
   replace a48 := a48.step0 o62
   replace a49 := a49.step0 o62
   replace aD_ := aD_.step0 o62
   replace aL_ := aL_.step0 o62
   replace oW := oW.tail0 o62
   replace o54 := o54.tail0 o62
   replace oR_ := oR_.tail0 o62
   refine wI (d_nilCheck (b := L.bD) (o := ((((s.ask (s.eraseOk ↑dn ↑bn)).setB dn bn { (s.ask (s.eraseOk ↑dn ↑bn)).bl dn bn with er := IntKind.i64.wrap (((s.ask (s.eraseOk ↑dn ↑bn)).bl dn bn).er + 1) }).goes).ix dn bn pre.length)) rfl) ?_
   refine wO (nd_stD (i := ((((s.ask (s.eraseOk ↑dn ↑bn)).setB dn bn { (s.ask (s.eraseOk ↑dn ↑bn)).bl dn bn with er := IntKind.i64.wrap (((s.ask (s.eraseOk ↑dn ↑bn)).bl dn bn).er + 1) }).goes).ix dn bn pre.length)) (Y := (Or1 L_ (Or1 D_ (Or1 b44 (Or1 b43 (Or1 b42 (Or1 tb (Or1 nbx (Ors L.S X))))))))) (l := onesW) hN (ox_or1 (ox_or1 (ox_or1 (ox_or1 (ox_or1 (ox_or1 (ox_or1 ox_s))))))) s_ti36 rfl rfl (f64.less (Y := (Or1 L_ (Or1 D_ (Or1 b44 (Or1 b43 (Or1 b42 (Or1 tb (Or1 nbx (Ors L.S X))))))))) (xx_or1 (xx_or1 (xx_or1 (xx_or1 (xx_or1 (xx_or1 (xx_or1 (xx_ors (lt_old hX)))))))))) (NS.ix_lt (by first | assumption | omega) (by first | assumption | omega) (by first | assumption | omega)) onesW_len) ?_
   rintro _ w65 ⟨a66, o67⟩
   replace a13 := a13.step o67 (hN.dis _ (in2 (in2 (in2 (in2 (in2 (in2 in1)))))))
   replace a38 := a38.step o67 (hN.dis _ (in2 (in2 (in2 (in2 (in2 in1))))))
   replace a50 := a50.step o67 (hN.dis _ (in2 (in2 in1)))
   replace a48 := a48.step o67 (hN.dis _ (in2 (in2 (in2 (in2 in1)))))
   replace a49 := a49.step o67 (hN.dis _ (in2 (in2 (in2 in1))))
   replace aD_ := aD_.step o67 (hN.dis _ (in2 in1))
   replace aL_ := aL_.step o67 (hN.dis _ in1)
   replace f64 := f64.step o67 (sub2 (sub2 (sub2 (sub2 (sub2 (sub2 (sub2 sub1)))))))
   replace oW := oW.tail o67 (fun k _ e => (fun k h => h) k e)
   replace o54 := o54.tail o67 (fun k _ e => (sub2 (sub2 sub1)) k e)
   replace oR_ := oR_.tail o67 (fun k _ e => (fun k h => Or.inl ((sub2 (sub2 sub1)) k h)) k e)
   replace hN := a66
   refine wF ([(ptr L.bN 0), (eN dn), (eN bn), (ptr nbx 0), undef, undef, (eN 0), (eN (s.askR (s.eraseOk ↑dn ↑bn))), (ptr tb 0), undef, (ptr L.bD ((((s.ask (s.eraseOk ↑dn ↑bn)).setB dn bn { (s.ask (s.eraseOk ↑dn ↑bn)).bl dn bn with er := IntKind.i64.wrap (((s.ask (s.eraseOk ↑dn ↑bn)).bl dn bn).er + 1) }).goes).ix dn bn pre.length)), (ptr L.bN 0), (ptr L.bN 0), (eN dn), (eN bn), vT, vT, (ptr L.bN 0), (eN dn), (eN bn), vF, vT, vT, (eN (s.askR (s.eraseOk ↑dn ↑bn))), (eN (s.askR (s.eraseOk ↑dn ↑bn))), (Value.bool (!decide ((s.askR (s.eraseOk ↑dn ↑bn)) = 0))), undef, (ptr L.bN 0), (ptr L.bN 0), (ptr L.bN 11), L.ub, (eN dn), (ixp L.ub dn), (sli (L.bk.getD dn 0) 0 ((s.ask (s.eraseOk ↑dn ↑bn)).gB) ((s.ask (s.eraseOk ↑dn ↑bn)).gB)), (eN bn), (ptr (L.bk.getD dn 0) (bn * 3)), (ptr (L.bk.getD dn 0) (bn * 3 + 1)), (eI (((s.ask (s.eraseOk ↑dn ↑bn)).bl dn bn).er)), (eI (IntKind.i64.wrap (((s.ask (s.eraseOk ↑dn ↑bn)).bl dn bn).er + 1))), (ptr (L.bk.getD dn 0) (bn * 3)), (ptr (L.bk.getD dn 0) (bn * 3 + 1)), (ptr L.bN 0), (Value.bool (((s.ask (s.eraseOk ↑dn ↑bn)).setB dn bn { (s.ask (s.eraseOk ↑dn ↑bn)).bl dn bn with er := IntKind.i64.wrap (((s.ask (s.eraseOk ↑dn ↑bn)).bl dn bn).er + 1) }).goesR)), (ptr L.bN 0), (ptr L.bN 0), (ptr L.bN 3), (Value.agg #[(eN ((((s.ask (s.eraseOk ↑dn ↑bn)).setB dn bn { (s.ask (s.eraseOk ↑dn ↑bn)).bl dn bn with er := IntKind.i64.wrap (((s.ask (s.eraseOk ↑dn ↑bn)).bl dn bn).er + 1) }).goes).gD)), (eN ((((s.ask (s.eraseOk ↑dn ↑bn)).setB dn bn { (s.ask (s.eraseOk ↑dn ↑bn)).bl dn bn with er := IntKind.i64.wrap (((s.ask (s.eraseOk ↑dn ↑bn)).bl dn bn).er + 1) }).goes).gB)), (eN ((((s.ask (s.eraseOk ↑dn ↑bn)).setB dn bn { (s.ask (s.eraseOk ↑dn ↑bn)).bl dn bn with er := IntKind.i64.wrap (((s.ask (s.eraseOk ↑dn ↑bn)).bl dn bn).er + 1) }).goes).gP)), (sli L.bD 0 ((((s.ask (s.eraseOk ↑dn ↑bn)).setB dn bn { (s.ask (s.eraseOk ↑dn ↑bn)).bl dn bn with er := IntKind.i64.wrap (((s.ask (s.eraseOk ↑dn ↑bn)).bl dn bn).er + 1) }).goes).n) ((((s.ask (s.eraseOk ↑dn ↑bn)).setB dn bn { (s.ask (s.eraseOk ↑dn ↑bn)).bl dn bn with er := IntKind.i64.wrap (((s.ask (s.eraseOk ↑dn ↑bn)).bl dn bn).er + 1) }).goes).n))]), (eN dn), (eN bn), (Value.func (.func 63) #[] #[(ptr b42 0), (ptr b43 0), (ptr b44 0)]), (eN pre.length), (ptr L.bD ((((s.ask (s.eraseOk ↑dn ↑bn)).setB dn bn { (s.ask (s.eraseOk ↑dn ↑bn)).bl dn bn with er := IntKind.i64.wrap (((s.ask (s.eraseOk ↑dn ↑bn)).bl dn bn).er + 1) }).goes).ix dn bn pre.length)), (Value.bool (((s.ask (s.eraseOk ↑dn ↑bn)).setB dn bn { (s.ask (s.eraseOk ↑dn ↑bn)).bl dn bn with er := IntKind.i64.wrap (((s.ask (s.eraseOk ↑dn ↑bn)).bl dn bn).er + 1) }).goesR))] ++ (us 11 ++ [(ptr L.bD ((((s.ask (s.eraseOk ↑dn ↑bn)).setB dn bn { (s.ask (s.eraseOk ↑dn ↑bn)).bl dn bn with er := IntKind.i64.wrap (((s.ask (s.eraseOk ↑dn ↑bn)).bl dn bn).er + 1) }).goes).ix dn bn pre.length)), u63, (ptr L.bD ((((s.ask (s.eraseOk ↑dn ↑bn)).setB dn bn { (s.ask (s.eraseOk ↑dn ↑bn)).bl dn bn with er := IntKind.i64.wrap (((s.ask (s.eraseOk ↑dn ↑bn)).bl dn bn).er + 1) }).goes).ix dn bn pre.length))] ++ (us 11))) ?_
   refine wD ?_
   refine inb_n ?_
   refine ⟨oR_, ?_, ?_, ?_, ?_, ?_, ?_, ?_⟩
   ·
    exact o54
   ·
    exact a13
   ·
    exact a38
   ·
    exact a50
   ·
    exact a48
   ·
    exact a49
   ·
    (try dsimp only)
    all_goals (exact (by rw [List.length_append, List.length_singleton]; exact nd_to (hN.less (xx_or1 (xx_or1 (xx_or1 (xx_or1 (xx_or1 (xx_or1 (xx_or1 xx_id)))))))) (NS.eraseTo_next _ _ _ _ _ (if_neg (fun e_ => by rw [c1] at e_; cases e_)))))
  ·
   intro w1_ hI_ aD_
   obtain ⟨o54, a13, a38, a50, a48, a49, hN⟩ := hI_
   replace hN := hN.less (Y := (Or1 D_ (Or1 b44 (Or1 b43 (Or1 b42 (Or1 tb (Or1 nbx X))))))) (xx_skip xx_id)
   replace oW := oW.tail o54 (tl_new g_oW_tb (tl_new g_oW_nbx (tl_sin (fun k h => h) tl_no)))
   have n_nbx_D_ : nbx ≠ D_ := by omega
   have n_tb_D_ : tb ≠ D_ := by omega
   have n_b44_D_ : b44 ≠ D_ := by omega
   have n_b42_D_ : b42 ≠ D_ := by omega
   have n_b43_D_ : b43 ≠ D_ := by omega
   have g_oW_D_ : W.heap.size ≤ D_ := by omega
   have g_o54_D_ : w40.heap.size ≤ D_ := by omega
   replace hN := nd_to hN (show _ = (s.eraseA ↑dn ↑bn).eraseTo s.goesR dn bn s.gP from by rw [List.length_range]; rfl)
   refine inb_n (tN ?_)
   refine wQ (wQ (pL ?_))
   refine wI (d_load (v := (Value.bool (((s.ask (s.eraseOk ↑dn ↑bn)).setB dn bn { (s.ask (s.eraseOk ↑dn ↑bn)).bl dn bn with er := IntKind.i64.wrap (((s.ask (s.eraseOk ↑dn ↑bn)).bl dn bn).er + 1) }).goesR))) ⟨_, Try.underlying4, rfl⟩ rfl a38 rfl) ?_
   refine wD (tN ?_)
   refine cond_b rfl (fun c1 => ?_) (fun c1 => ?_)
   ·
    refine wQ (pL ?_)
    refine wI (d_assign rfl) ?_
    refine wD (tN ?_)
    refine wpIn_ret ?_
    refine then_r ?_
    refine leave (marks_ok aD_) (fun w68 o69 => ⟨res1 Try.results23 rfl, ?_⟩)
    replace o69 := only_mem o69
    replace hN := hN.stepb o69 in1
    replace a13 := a13.step o69 (fun e => absurd e n_nbx_D_)
    replace a38 := a38.step o69 (fun e => absurd e n_tb_D_)
    replace a50 := a50.step o69 (fun e => absurd e n_b44_D_)
    replace a48 := a48.step o69 (fun e => absurd e n_b42_D_)
    replace a49 := a49.step o69 (fun e => absurd e n_b43_D_)
    replace oW := oW.tailb o69 g_oW_D_
    replace o54 := o54.tailb o69 g_o54_D_
    obtain ⟨e1_, e2_⟩ := NS.erase_torn c0 c1
    exact ⟨congrArg eN e2_.symm, by rw [e1_]; exact (hN.less (xx_skip (xx_skip (xx_skip (xx_skip (xx_skip (xx_skip xx_id))))))), oW⟩
   refine wK (tN (wQ (pL ?_)))
   refine wI (d_load (v := (ptr L.bN 0)) ⟨_, Try.underlying27, rfl⟩ rfl a13 rfl) ?_
   refine wI (d_nilCheck (b := L.bN) (o := 0) rfl) ?_
   refine wI (d_fieldAddr (j := 11) Try.underlying73 rfl s_ti71 (by decide) rfl rfl) ?_
   refine wI (nd_ld (v := L.ub) hN ⟨_, Try.underlying71, rfl⟩ rfl (fun _ => rfl)) ?_
   refine wI (d_move rfl) ?_
   refine wI (nd_ixU (i := dn) hN Try.underlying71 s_ti75 rfl (show _ = Value.int _ (dn : Int) from rfl) hd1) ?_
   refine wI (nd_ldU (i := dn) hN ⟨_, Try.underlying75, rfl⟩ rfl hd1) ?_
   refine wI (d_move rfl) ?_
   refine wF ([(ptr L.bN 0), (eN dn), (eN bn), (ptr nbx 0), undef, undef, (eN 0), (eN (s.askR (s.eraseOk ↑dn ↑bn))), (ptr tb 0), undef, undef, (ptr L.bN 0), (ptr L.bN 0), (eN dn), (eN bn), vT, vT, (ptr L.bN 0), (eN dn), (eN bn), vF, vT, vT, (eN (s.askR (s.eraseOk ↑dn ↑bn))), (eN (s.askR (s.eraseOk ↑dn ↑bn))), (Value.bool (!decide ((s.askR (s.eraseOk ↑dn ↑bn)) = 0))), undef, (ptr L.bN 0), (ptr L.bN 0), (ptr L.bN 11), L.ub, (eN dn), (ixp L.ub dn), (sli (L.bk.getD dn 0) 0 ((s.ask (s.eraseOk ↑dn ↑bn)).gB) ((s.ask (s.eraseOk ↑dn ↑bn)).gB)), (eN bn), (ptr (L.bk.getD dn 0) (bn * 3)), (ptr (L.bk.getD dn 0) (bn * 3 + 1)), (eI (((s.ask (s.eraseOk ↑dn ↑bn)).bl dn bn).er)), (eI (IntKind.i64.wrap (((s.ask (s.eraseOk ↑dn ↑bn)).bl dn bn).er + 1))), (ptr (L.bk.getD dn 0) (bn * 3)), (ptr (L.bk.getD dn 0) (bn * 3 + 1)), (ptr L.bN 0), (Value.bool (((s.ask (s.eraseOk ↑dn ↑bn)).setB dn bn { (s.ask (s.eraseOk ↑dn ↑bn)).bl dn bn with er := IntKind.i64.wrap (((s.ask (s.eraseOk ↑dn ↑bn)).bl dn bn).er + 1) }).goesR)), (ptr L.bN 0), (ptr L.bN 0), (ptr L.bN 3), (Value.agg #[(eN ((((s.ask (s.eraseOk ↑dn ↑bn)).setB dn bn { (s.ask (s.eraseOk ↑dn ↑bn)).bl dn bn with er := IntKind.i64.wrap (((s.ask (s.eraseOk ↑dn ↑bn)).bl dn bn).er + 1) }).goes).gD)), (eN ((((s.ask (s.eraseOk ↑dn ↑bn)).setB dn bn { (s.ask (s.eraseOk ↑dn ↑bn)).bl dn bn with er := IntKind.i64.wrap (((s.ask (s.eraseOk ↑dn ↑bn)).bl dn bn).er + 1) }).goes).gB)), (eN ((((s.ask (s.eraseOk ↑dn ↑bn)).setB dn bn { (s.ask (s.eraseOk ↑dn ↑bn)).bl dn bn with er := IntKind.i64.wrap (((s.ask (s.eraseOk ↑dn ↑bn)).bl dn bn).er + 1) }).goes).gP)), (sli L.bD 0 ((((s.ask (s.eraseOk ↑dn ↑bn)).setB dn bn { (s.ask (s.eraseOk ↑dn ↑bn)).bl dn bn with er := IntKind.i64.wrap (((s.ask (s.eraseOk ↑dn ↑bn)).bl dn bn).er + 1) }).goes).n) ((((s.ask (s.eraseOk ↑dn ↑bn)).setB dn bn { (s.ask (s.eraseOk ↑dn ↑bn)).bl dn bn with er := IntKind.i64.wrap (((s.ask (s.eraseOk ↑dn ↑bn)).bl dn bn).er + 1) }).goes).n))]), (eN dn), (eN bn), (Value.func (.func 63) #[] #[(ptr b42 0), (ptr b43 0), (ptr b44 0)])] ++ (us 17 ++ [(Value.bool (((s.ask (s.eraseOk ↑dn ↑bn)).setB dn bn { (s.ask (s.eraseOk ↑dn ↑bn)).bl dn bn with er := IntKind.i64.wrap (((s.ask (s.eraseOk ↑dn ↑bn)).bl dn bn).er + 1) }).goesR)), (ptr L.bN 0), (ptr L.bN 0), (ptr L.bN 11), L.ub, (eN dn), (ixp L.ub dn), (sli (L.bk.getD dn 0) 0 (((s.eraseA ↑dn ↑bn).eraseTo s.goesR dn bn s.gP).gB) (((s.eraseA ↑dn ↑bn).eraseTo s.goesR dn bn s.gP).gB)), (eN bn), undef, undef])) ?_
   refine wI (d_index (b := (L.bk.getD dn 0)) (o := 0) (n := (((s.eraseA ↑dn ↑bn).eraseTo s.goesR dn bn s.gP).gB)) (c := (((s.eraseA ↑dn ↑bn).eraseTo s.goesR dn bn s.gP).gB)) (j := (bn * 3)) Try.underlying75 s_ti77 rfl (show _ = Value.int _ (bn : Int) from rfl) oo (Int.ofNat_lt.2 hb1) (by simp)) ?_
   refine wI (d_fieldAddr (j := bn * 3) Try.underlying77 rfl s_ti3 (by decide) rfl rfl) ?_
   refine wO (nd_stS (i := dn) (j := bn) (f := 0) (x' := { ((s.eraseA ↑dn ↑bn).eraseTo s.goesR dn bn s.gP).bl dn bn with nx := 0 }) hN s_ti3 rfl rfl rfl hd1 hb1 (by decide) rfl (Nat.zero_le _)) ?_
   rintro _ w70 ⟨a71, o72⟩
   replace a13 := a13.step o72 (hN.dis _ (in2 (in2 (in2 (in2 (in2 in1))))))
   replace a38 := a38.step o72 (hN.dis _ (in2 (in2 (in2 (in2 in1)))))
   replace a50 := a50.step o72 (hN.dis _ (in2 in1))
   replace a48 := a48.step o72 (hN.dis _ (in2 (in2 (in2 in1))))
   replace a49 := a49.step o72 (hN.dis _ (in2 (in2 in1)))
   replace aD_ := aD_.step o72 (hN.dis _ in1)
   replace oW := oW.tail o72 (fun k _ e => (fun k h => h) k e)
   replace o54 := o54.tail o72 (fun k _ e => (sub2 (sub2 sub1)) k e)
   replace hN := a71
   refine wD (tN (wQ (pL ?_)))
   refine wI (d_assign rfl) ?_
   refine wD (tN ?_)
   refine wpIn_ret ?_
   refine leave (marks_ok aD_) (fun w73 o74 => ⟨res1 Try.results23 rfl, ?_⟩)
   replace o74 := only_mem o74
   replace hN := hN.stepb o74 in1
   replace a13 := a13.step o74 (fun e => absurd e n_nbx_D_)
   replace a38 := a38.step o74 (fun e => absurd e n_tb_D_)
   replace a50 := a50.step o74 (fun e => absurd e n_b44_D_)
   replace a48 := a48.step o74 (fun e => absurd e n_b42_D_)
   replace a49 := a49.step o74 (fun e => absurd e n_b43_D_)
   replace oW := oW.tailb o74 g_oW_D_
   replace o54 := o54.tailb o74 g_o54_D_
   obtain ⟨e1_, e2_⟩ := NS.erase_yes c0 c1
   exact ⟨congrArg eN e2_.symm, by rw [e1_]; exact (hN.less (xx_skip (xx_skip (xx_skip (xx_skip (xx_skip (xx_skip xx_id))))))), oW⟩
  ·
   intro _ _ _ _ h _; exact h.elim
 refine wp_eq (l' := ([(ptr L.bN 0), (eI d), (eI b), (ptr nbx 0), undef, undef, (eN 0)] ++ (us 71))) rfl ?_
 refine drawnT (O := (Or1 nbx (Ors L.S No))) (n := 14) 12 [0, 0, 0, 0, 14, 30, 62, 62, 62, 510, 1022, 2046, 4095, 8191] [(0, 11), (1, 12), (2, 13), (3, 14), (4, 15), (5, 16), (6, 17), (7, 18), (8, 19), (9, 20), (10, 21), (11, 22), (12, 23), (13, 7)] [(0, 11), (1, 12), (2, 13), (3, 14), (4, 15), (5, 16), (6, 17), (7, 18), (8, 19), (9, 20), (10, 21), (11, 22)] [0, 1, 2, 3, 4, 5, 6, 7, 8, 9, 10, 11] [] (fun i_ => ([RF.is (Or1 nbx (Ors L.S No)) (ptr L.bN 0), RF.is (Or1 nbx (Ors L.S No)) (ptr L.bN 0), RF.is (Or1 nbx (Ors L.S No)) (eI d), RF.is (Or1 nbx (Ors L.S No)) (eI b), RF.is (Or1 nbx (Ors L.S No)) vF, RF.is (Or1 nbx (Ors L.S No)) vF, RF.is (Or1 nbx (Ors L.S No)) undef, RF.is (Or1 nbx (Ors L.S No)) undef, RF.is (Or1 nbx (Ors L.S No)) undef, RF.is (Or1 nbx (Ors L.S No)) undef, RF.is (Or1 nbx (Ors L.S No)) undef, RF.is (Or1 nbx (Ors L.S No)) vF] : List (RF (Or1 nbx (Ors L.S No)))).getD i_ (RF.any (Or1 nbx (Ors L.S No)))) (fun _ w_ => Arr 27 nbx [(ptr L.bN 0)] w_ ∧ Nd L s (Or1 nbx X) w_) (fun v75 => ([(ptr L.bN 0), (eI d), (eI b), (ptr nbx 0), undef, undef, (eN 0), (v75 13), undef, undef, undef, (v75 0), (v75 1), (v75 2), (v75 3), (v75 4), (v75 5), (v75 6), (v75 7), (v75 8), (v75 9), (v75 10), (v75 11), (v75 12)] ++ (us 54))) (fun v75 => ([(ptr L.bN 0), (eI d), (eI b), (ptr nbx 0), undef, undef, (eN 0), undef, undef, undef, undef, (v75 0), (v75 1), (v75 2), (v75 3), (v75 4), (v75 5), (v75 6), (v75 7), (v75 8), (v75 9), (v75 10), (v75 11)] ++ (us 55))) s_mx kr rfl (by decide) (by rfl) kr kr kr (by rfl) (fun v_ => by kernel_rfl) (fun v_ => by kernel_rfl) (fun _ => fun w_ w2_ h ho => by obtain ⟨r_a13, r_hN⟩ := h; exact ⟨r_a13.step0 ho, r_hN.step0 ho⟩) ⟨a13, hN⟩ ?_ ?_ ?_
 ·
  refine ls_cons ?_ ?_
  ·
   intro v75 lo hi w_ k_ hO hd _ _ hk_ _ hR hold
   obtain ⟨r_a13, r_hN⟩ := hR
   clear hd hold
   refine ⟨_, rfl, gd rfl ?_⟩
   exact Does.is (d_load (v := (ptr L.bN 0)) ⟨_, Try.underlying27, rfl⟩ rfl r_a13 rfl)
  refine ls_cons ?_ ?_
  ·
   intro v75 lo hi w_ k_ hO hd _ _ hk_ _ hR hold
   obtain ⟨r_a13, r_hN⟩ := hR
   clear hd hold
   refine ⟨_, rfl, gd rfl ?_⟩
   exact Does.is (d_load (v := (ptr L.bN 0)) ⟨_, Try.underlying27, rfl⟩ rfl r_a13 rfl)
  refine ls_cons ?_ ?_
  ·
   intro v75 lo hi w_ k_ hO hd _ _ hk_ _ hR hold
   obtain ⟨r_a13, r_hN⟩ := hR
   clear hd hold
   refine ⟨_, rfl, gd rfl ?_⟩
   exact Does.is (d_move rfl)
  refine ls_cons ?_ ?_
  ·
   intro v75 lo hi w_ k_ hO hd _ _ hk_ _ hR hold
   obtain ⟨r_a13, r_hN⟩ := hR
   clear hd hold
   refine ⟨_, rfl, gd rfl ?_⟩
   exact Does.is (d_move rfl)
  refine ls_cons ?_ ?_
  ·
   intro v75 lo hi w_ k_ hO hd _ _ hk_ _ hR hold
   obtain ⟨r_a13, r_hN⟩ := hR
   have e1 : v75 1 = (ptr L.bN 0) := hd 1 kr
   have e2 : v75 2 = (eI d) := hd 2 kr
   have e3 : v75 3 = (eI b) := hd 3 kr
   clear hd hold
   refine ⟨_, rfl, gd rfl ?_⟩
   exact d_call (xl := [.tmp 12, .tmp 13, .tmp 14]) (al := [(ptr L.bN 0), (eI d), (eI b)]) Try.func40 kr rfl (show ([(v75 1), (v75 2), (v75 3)] : List Value) = [(ptr L.bN 0), (eI d), (eI b)] from by rw [e1, e2, e3]) rfl (there_ok L s _ r_hN (r := false) d b (Bool.eq_false_iff.2 k0))
  refine ls_cons ?_ ?_
  ·
   intro v75 lo hi w_ k_ hO hd _ _ hk_ _ hR hold
   obtain ⟨r_a13, r_hN⟩ := hR
   have e4 : v75 4 = vF := hd 4 kr
   clear hd hold
   refine ⟨_, rfl, gd rfl ?_⟩
   exact Does.is (d_move (v := vF) e4)
  refine ls_cons ?_ ?_
  ·
   intro v75 lo hi w_ k_ hO hd _ _ hk_ _ hR hold
   obtain ⟨r_a13, r_hN⟩ := hR
   have e5 : v75 5 = vF := hd 5 kr
   clear hd hold
   refine ⟨_, rfl, gd_off rfl rfl rfl (nb rfl) e5 ?_⟩
   exact ⟨rfl, Only.refl _ _⟩
  refine ls_cons ?_ ?_
  ·
   intro v75 lo hi w_ k_ hO hd _ _ hk_ _ hR hold
   obtain ⟨r_a13, r_hN⟩ := hR
   have e5 : v75 5 = vF := hd 5 kr
   clear hd hold
   refine ⟨_, rfl, gd_off rfl rfl rfl (nb rfl) e5 ?_⟩
   exact ⟨rfl, Only.refl _ _⟩
  refine ls_cons ?_ ?_
  ·
   intro v75 lo hi w_ k_ hO hd _ _ hk_ _ hR hold
   obtain ⟨r_a13, r_hN⟩ := hR
   have e5 : v75 5 = vF := hd 5 kr
   clear hd hold
   refine ⟨_, rfl, gd_off rfl rfl rfl (nb rfl) e5 ?_⟩
   exact ⟨rfl, Only.refl _ _⟩
  refine ls_cons ?_ ?_
  ·
   intro v75 lo hi w_ k_ hO hd _ _ hk_ _ hR hold
   obtain ⟨r_a13, r_hN⟩ := hR
   have e5 : v75 5 = vF := hd 5 kr
   clear hd hold
   refine ⟨_, rfl, gd_off rfl rfl rfl (nb rfl) e5 ?_⟩
   exact ⟨rfl, Only.refl _ _⟩
  refine ls_cons ?_ ?_
  ·
   intro v75 lo hi w_ k_ hO hd _ _ hk_ _ hR hold
   obtain ⟨r_a13, r_hN⟩ := hR
   have e5 : v75 5 = vF := hd 5 kr
   clear hd hold
   refine ⟨_, rfl, gd_off rfl rfl rfl (nb rfl) e5 ?_⟩
   exact ⟨rfl, Only.refl _ _⟩
  refine ls_cons ?_ ?_
  ·
   intro v75 lo hi w_ k_ hO hd _ _ hk_ _ hR hold
   obtain ⟨r_a13, r_hN⟩ := hR
   have e5 : v75 5 = vF := hd 5 kr
   clear hd hold
   refine ⟨_, rfl, gd rfl ?_⟩
   exact Does.is (d_pick (b := false) (v := vF) e5 rfl)
  exact ls_nil
 ·
  exact ms_nil
 intro v75 lo_ hi_ w76 o77 hd iv_ hR
 have e0 : v75 0 = (ptr L.bN 0) := hd 0 (by decide)
 have e1 : v75 1 = (ptr L.bN 0) := hd 1 (by decide)
 have e2 : v75 2 = (eI d) := hd 2 (by decide)
 have e3 : v75 3 = (eI b) := hd 3 (by decide)
 have e4 : v75 4 = vF := hd 4 (by decide)
 have e5 : v75 5 = vF := hd 5 (by decide)
 have e6 : v75 6 = undef := hd 6 (by decide)
 have e7 : v75 7 = undef := hd 7 (by decide)
 have e8 : v75 8 = undef := hd 8 (by decide)
 have e9 : v75 9 = undef := hd 9 (by decide)
 have e10 : v75 10 = undef := hd 10 (by decide)
 have e11 : v75 11 = vF := hd 11 (by decide)
 clear hd iv_ lo_ hi_
 refine wpL.flat ([(ptr L.bN 0), (eI d), (eI b), (ptr nbx 0), undef, undef, (eN 0), undef, undef, undef, undef, (ptr L.bN 0), (ptr L.bN 0), (eI d), (eI b), vF, vF] ++ (us 5 ++ [vF] ++ (us 55))) (by rw [e0, e1, e2, e3, e4, e5, e6, e7, e8, e9, e10, e11] <;> rfl) ?_
 clear e0 e1 e2 e3 e4 e5 e6 e7 e8 e9 e10 e11
 obtain ⟨xr_a13, xr_hN⟩ := hR
 replace a13 : Arr 27 nbx [(ptr L.bN 0)] w76 := xr_a13
 replace hN := xr_hN
 clear xr_a13 xr_hN
 replace oW := oW.tail o77 (tl_new g_oW_nbx (tl_sin (fun k h => h) tl_no))
 refine wO (d_call (xl := [.tmp 11, .tmp 22]) (al := [(ptr L.bN 0), vF]) Try.func47 kr rfl rfl rfl (ask_ok L s _ hN (g := (s.eraseOk d b)) false (by simp [NS.eraseOk, *]))) ?_
 rintro _ w78 ⟨rfl, a80, o79⟩
 replace a13 := a13.step o79 (hN.dis _ in1)
 replace oW := oW.tail o79 (fun k _ e => (fun k h => h) k e)
 replace hN := a80
 refine wI (d_assign rfl) ?_
 refine wF ([(ptr L.bN 0), (eI d), (eI b), (ptr nbx 0), undef, undef, (eN 0), (eN (s.askR (s.eraseOk d b))), undef, undef, undef, (ptr L.bN 0), (ptr L.bN 0), (eI d), (eI b), vF, vF] ++ (us 5 ++ [vF, (eN (s.askR (s.eraseOk d b)))] ++ (us 54))) ?_
 refine wD (tN (wQ (pL ?_)))
 refine wI (d_move rfl) ?_
 refine wI (n_neq (a := (s.askR (s.eraseOk d b))) (b := 0) rfl rfl rfl) ?_
 refine wD (tN ?_)
 refine cond_un rfl (fun c0 => ?_) (fun c0 => ?_)
 ·
  refine wQ (pL ?_)
  refine wI (d_move rfl) ?_
  refine wI (d_assign rfl) ?_
  refine wD (tN ?_)
  refine wpIn_ret ?_
  refine then_r ?_
  refine leave0 (v := (eN (s.askR (s.eraseOk d b)))) (res1 Try.results23 rfl) ?_
  obtain ⟨e1_, e2_⟩ := NS.erase_no c0; exact ⟨congrArg eN e2_.symm, e1_ ▸ (hN.less (xx_skip xx_id)), oW⟩
 exact absurd c0 (NS.askR_no (by simp [NS.eraseOk, *]))
theorem fits_ok (D B Q : Nat) (W : World) (hD : 6 ≤ D ∧ D ≤ 8) (hB : 8 ≤ B ∧ B ≤ 12) (hQ : 4 ≤ Q ∧ Q ≤ 8) :
    CW Try.prog 36 #[(ag3 D B Q)] W (Rt (RIs (.bool true) W)) := by
 have oW : Only No W W := Only.refl _ _
 refine enter (al := [(ag3 D B Q)]) (k := 30) (l := ([(ag3 D B Q)] ++ (us 30))) Try.func36 rfl Try.ntmps36 rfl rfl ?_
 refine wQ (pL ?_)
 refine wO (d_box rfl rfl) ?_
 rintro _ w12 ⟨b11, rfl, g13, a14, o15⟩
 have g_oW_b11 : W.heap.size ≤ b11 := Nat.le_trans oW.size g13
 replace oW := oW.tail0 o15
 refine wI (d_assign rfl) ?_
 refine wD (tN (wQ (pL ?_)))
 refine wI (d_fieldAddr (j := 0) Try.underlying23 rfl s_ti3 (by decide) rfl rfl) ?_
 refine wI (d_load (v := (eN D)) ⟨_, Try.underlying3, rfl⟩ rfl a14 rfl) ?_
 refine wI (n_geq (a := D) (b := 6) rfl rfl (decide_eq_true oo)) ?_
 refine wI (d_move rfl) ?_
 refine wG (d_fieldAddr (j := 0) Try.underlying23 rfl s_ti3 (by decide) rfl rfl) ?_
 refine wF ([(ag3 D B Q), (ptr b11 0), vF, (ptr b11 0), (eN D), vT, vT, (ptr b11 0)] ++ (us 23)) ?_
 refine wG (d_load (v := (eN D)) ⟨_, Try.underlying3, rfl⟩ rfl a14 rfl) ?_
 refine wG (n_leq (a := D) (b := 8) rfl rfl (decide_eq_true oo)) ?_
 refine wI (d_pick (b := true) (v := vT) rfl rfl) ?_
 refine wI (d_move rfl) ?_
 refine wG (d_fieldAddr (j := 1) Try.underlying23 rfl s_ti3 (by decide) rfl rfl) ?_
 refine wG (d_load (v := (eN B)) ⟨_, Try.underlying3, rfl⟩ rfl a14 rfl) ?_
 refine wG (n_geq (a := B) (b := 8) rfl rfl (decide_eq_true oo)) ?_
 refine wF ([(ag3 D B Q), (ptr b11 0), vF, (ptr b11 0), (eN D), vT, vT, (ptr b11 0), (eN D), vT, vT, vT, (ptr b11 1), (eN B), vT] ++ (us 16)) ?_
 refine wI (d_pick (b := true) (v := vT) rfl rfl) ?_
 refine wI (d_move rfl) ?_
 refine wG (d_fieldAddr (j := 1) Try.underlying23 rfl s_ti3 (by decide) rfl rfl) ?_
 refine wG (d_load (v := (eN B)) ⟨_, Try.underlying3, rfl⟩ rfl a14 rfl) ?_
 refine wG (n_leq (a := B) (b := 12) rfl rfl (decide_eq_true oo)) ?_
 refine wI (d_pick (b := true) (v := vT) rfl rfl) ?_
 refine wI (d_move rfl) ?_
 refine wF ([(ag3 D B Q), (ptr b11 0), vF, (ptr b11 0), (eN D), vT, vT, (ptr b11 0), (eN D), vT, vT, vT, (ptr b11 1), (eN B), vT, vT, vT, (ptr b11 1), (eN B), vT, vT, vT] ++ (us 9)) ?_
 refine wG (d_fieldAddr (j := 2) Try.underlying23 rfl s_ti3 (by decide) rfl rfl) ?_
 refine wG (d_load (v := (eN Q)) ⟨_, Try.underlying3, rfl⟩ rfl a14 rfl) ?_
 refine wG (n_geq (a := Q) (b := 4) rfl rfl (decide_eq_true oo)) ?_
 refine wI (d_pick (b := true) (v := vT) rfl rfl) ?_
 refine wI (d_move rfl) ?_
 refine wG (d_fieldAddr (j := 2) Try.underlying23 rfl s_ti3 (by decide) rfl rfl) ?_
 refine wG (d_load (v := (eN Q)) ⟨_, Try.underlying3, rfl⟩ rfl a14 rfl) ?_
 refine wF [(ag3 D B Q), (ptr b11 0), vF, (ptr b11 0), (eN D), vT, vT, (ptr b11 0), (eN D), vT, vT, vT, (ptr b11 1), (eN B), vT, vT, vT, (ptr b11 1), (eN B), vT, vT, vT, (ptr b11 2), (eN Q), vT, vT, vT, (ptr b11 2), (eN Q), undef, undef] ?_
 refine wG (n_leq (a := Q) (b := 8) rfl rfl (decide_eq_true oo)) ?_
 refine wI (d_pick (b := true) (v := vT) rfl rfl) ?_
 refine wI (d_assign rfl) ?_
 refine wD (tN ?_)
 refine forget (fun zf16 => ([(zf16 0), (zf16 1), vT] ++ (zs zf16 3 28))) kr (fun zf16 => ?_)
 refine wpIn_ret ?_
 refine leave0 (v := vT) (res1 Try.results36 rfl) ?_
 exact ⟨rfl, oW⟩
theorem noneD_ok (D B Q : Nat) (W : World) (hD : 6 ≤ D ∧ D ≤ 8) (hB : 8 ≤ B ∧ B ≤ 12) (hQ : 4 ≤ Q ∧ Q ≤ 8) :
    CW Try.prog 37 #[(ag3 D B Q)] W (Rt (Made 36 W (fun b_ => .agg #[eN D, eN B, eN Q, sli b_ 0 (D * B * Q) (D * B * Q)]) (List.replicate (D * B * Q) vN))) := by
 have oW : Only No W W := Only.refl _ _
 refine enter (al := [(ag3 D B Q)]) (k := 13) (l := ([(ag3 D B Q)] ++ (us 13))) Try.func37 rfl Try.ntmps37 rfl rfl ?_
 have m1_ : D * B ≤ 8 * 12 := Nat.mul_le_mul hD.2 hB.2
 have m2_ : D * B * Q ≤ 8 * 12 * 8 := Nat.mul_le_mul m1_ hQ.2
 refine wQ (pL ?_)
 refine wO (d_box rfl rfl) ?_
 rintro _ w11 ⟨gb, rfl, g12, a13, o14⟩
 have g_oW_gb : W.heap.size ≤ gb := Nat.le_trans oW.size g12
 replace oW := oW.tail0 o14
 refine wO (d_alloc s_ti65 rfl) ?_
 rintro _ w15 ⟨r, rfl, g16, a17, o18⟩
 have n_gb_r : gb ≠ r := a13.ne g16
 have g_oW_r : W.heap.size ≤ r := Nat.le_trans oW.size g16
 replace a13 := a13.step0 o18
 replace oW := oW.tail0 o18
 refine wD (tN (wQ ?_))
 refine wp_eq (l' := ([(ag3 D B Q), (ptr gb 0), (ptr r 0)] ++ (us 11))) rfl ?_
 have hX0_ : ∀ k, (Or1 r (Or1 gb (Old W.heap.size))) k → k < w15.heap.size := (lt_or1 a17.lt (lt_or1 a13.lt (fun k t => Nat.lt_of_lt_of_le t oW.size)))
 have hO0_ : ∀ k, (Or1 r (Or1 gb No)) k → k < w15.heap.size := fun k h => hX0_ k ((or1_mono (or1_mono no_any)) k h)
 refine drawnT (O := (Or1 r (Or1 gb No))) (n := 12) 10 [0, 0, 2, 0, 8, 30, 0, 64, 254, 510, 1023, 2047] [(0, 3), (1, 4), (2, 5), (3, 6), (4, 7), (5, 8), (6, 9), (7, 10), (8, 11), (9, 12), (10, 13)] [(0, 3), (1, 4), (2, 5), (3, 6), (4, 7), (5, 8), (6, 9), (7, 10), (8, 11), (9, 12)] [0, 1, 2, 3, 4, 5, 6, 7, 8, 9] [] (fun i_ => ([RF.is (Or1 r (Or1 gb No)) (ag3 D B Q), RF.is (Or1 r (Or1 gb No)) (ptr gb 0), RF.is (Or1 r (Or1 gb No)) (eN D), RF.is (Or1 r (Or1 gb No)) (ptr gb 1), RF.is (Or1 r (Or1 gb No)) (eN B), RF.is (Or1 r (Or1 gb No)) (eN (D * B)), RF.is (Or1 r (Or1 gb No)) (ptr gb 2), RF.is (Or1 r (Or1 gb No)) (eN Q), RF.is (Or1 r (Or1 gb No)) (eN ((D * B) * Q)), RF.mk_ (Or1 r (Or1 gb No)) (fun b_ => (sli b_ 0 ((D * B) * Q) ((D * B) * Q))) 36 (List.replicate ((D * B) * Q) vN) w15.heap.size hO0_] : List (RF (Or1 r (Or1 gb No)))).getD i_ (RF.any (Or1 r (Or1 gb No)))) (fun _ w_ => Arr 23 gb [(eN D), (eN B), (eN Q)] w_ ∧ Arr 65 r [(eN 0), (eN 0), (eN 0), vN] w_) (fun v19 => [(ag3 D B Q), (ptr gb 0), (ptr r 0), (v19 0), (v19 1), (v19 2), (v19 3), (v19 4), (v19 5), (v19 6), (v19 7), (v19 8), (v19 9), (v19 10)]) (fun v19 => [(ag3 D B Q), (ptr gb 0), (ptr r 0), (v19 0), (v19 1), (v19 2), (v19 3), (v19 4), (v19 5), (v19 6), (v19 7), (v19 8), (v19 9), undef]) s_mx kr rfl (by decide) (by rfl) kr kr kr (by rfl) (fun v_ => by kernel_rfl) (fun v_ => by kernel_rfl) (fun _ => fun w_ w2_ h ho => by obtain ⟨r_a13, r_a17⟩ := h; exact ⟨r_a13.step0 ho, r_a17.step0 ho⟩) ⟨a13, a17⟩ ?_ ?_ ?_
 ·
  refine ls_cons ?_ ?_
  ·
   intro v19 lo hi w_ k_ hO hd _ _ hk_ _ hR hold
   obtain ⟨r_a13, r_a17⟩ := hR
   clear hd hold
   refine ⟨_, rfl, gd rfl ?_⟩
   exact Does.is (d_loadAg (vs := [(eN D), (eN B), (eN Q)]) ⟨_, Try.underlying23, rfl⟩ s_ti23 rfl r_a13 rfl rfl)
  refine ls_cons ?_ ?_
  ·
   intro v19 lo hi w_ k_ hO hd _ _ hk_ _ hR hold
   obtain ⟨r_a13, r_a17⟩ := hR
   clear hd hold
   refine ⟨_, rfl, gd rfl ?_⟩
   exact Does.is (d_fieldAddr (j := 0) Try.underlying23 rfl s_ti3 (by decide) rfl rfl)
  refine ls_cons ?_ ?_
  ·
   intro v19 lo hi w_ k_ hO hd _ _ hk_ _ hR hold
   obtain ⟨r_a13, r_a17⟩ := hR
   have e1 : v19 1 = (ptr gb 0) := hd 1 kr
   clear hd hold
   refine ⟨_, rfl, gd rfl ?_⟩
   exact Does.is (d_load (v := (eN D)) ⟨_, Try.underlying3, rfl⟩ e1 r_a13 rfl)
  refine ls_cons ?_ ?_
  ·
   intro v19 lo hi w_ k_ hO hd _ _ hk_ _ hR hold
   obtain ⟨r_a13, r_a17⟩ := hR
   clear hd hold
   refine ⟨_, rfl, gd rfl ?_⟩
   exact Does.is (d_fieldAddr (j := 1) Try.underlying23 rfl s_ti3 (by decide) rfl rfl)
  refine ls_cons ?_ ?_
  ·
   intro v19 lo hi w_ k_ hO hd _ _ hk_ _ hR hold
   obtain ⟨r_a13, r_a17⟩ := hR
   have e3 : v19 3 = (ptr gb 1) := hd 3 kr
   clear hd hold
   refine ⟨_, rfl, gd rfl ?_⟩
   exact Does.is (d_load (v := (eN B)) ⟨_, Try.underlying3, rfl⟩ e3 r_a13 rfl)
  refine ls_cons ?_ ?_
  ·
   intro v19 lo hi w_ k_ hO hd _ _ hk_ _ hR hold
   obtain ⟨r_a13, r_a17⟩ := hR
   have e2 : v19 2 = (eN D) := hd 2 kr
   have e4 : v19 4 = (eN B) := hd 4 kr
   clear hd hold
   refine ⟨_, rfl, gd rfl ?_⟩
   exact Does.is (n_mul (a := D) (b := B) e2 e4 oo)
  refine ls_cons ?_ ?_
  ·
   intro v19 lo hi w_ k_ hO hd _ _ hk_ _ hR hold
   obtain ⟨r_a13, r_a17⟩ := hR
   clear hd hold
   refine ⟨_, rfl, gd rfl ?_⟩
   exact Does.is (d_fieldAddr (j := 2) Try.underlying23 rfl s_ti3 (by decide) rfl rfl)
  refine ls_cons ?_ ?_
  ·
   intro v19 lo hi w_ k_ hO hd _ _ hk_ _ hR hold
   obtain ⟨r_a13, r_a17⟩ := hR
   have e6 : v19 6 = (ptr gb 2) := hd 6 kr
   clear hd hold
   refine ⟨_, rfl, gd rfl ?_⟩
   exact Does.is (d_load (v := (eN Q)) ⟨_, Try.underlying3, rfl⟩ e6 r_a13 rfl)
  refine ls_cons ?_ ?_
  ·
   intro v19 lo hi w_ k_ hO hd _ _ hk_ _ hR hold
   obtain ⟨r_a13, r_a17⟩ := hR
   have e5 : v19 5 = (eN (D * B)) := hd 5 kr
   have e7 : v19 7 = (eN Q) := hd 7 kr
   clear hd hold
   refine ⟨_, rfl, gd rfl ?_⟩
   exact Does.is (n_mul (a := (D * B)) (b := Q) e5 e7 oo)
  refine ls_cons ?_ ?_
  ·
   intro v19 lo hi w_ k_ hO hd _ _ hk_ _ hR hold
   obtain ⟨r_a13, r_a17⟩ := hR
   have e8 : v19 8 = (eN ((D * B) * Q)) := hd 8 kr
   clear hd hold
   refine ⟨_, rfl, gd rfl ?_⟩
   refine Does.mono (d_make1 (n := (D * B) * Q) Try.underlying63 s_ti36 e8 e8 oo oo rfl) (fun u w' h => by obtain ⟨b_, rfl, hb_, hA_, hO_⟩ := h; exact ⟨⟨b_, rfl, hA_, Nat.le_trans hO.size hb_⟩, hO_⟩)
  exact ls_nil
 ·
  exact ms_nil
 intro v19 lo_ hi_ w20 o21 hd iv_ hR
 have e0 : v19 0 = (ag3 D B Q) := hd 0 (by decide)
 have e1 : v19 1 = (ptr gb 0) := hd 1 (by decide)
 have e2 : v19 2 = (eN D) := hd 2 (by decide)
 have e3 : v19 3 = (ptr gb 1) := hd 3 (by decide)
 have e4 : v19 4 = (eN B) := hd 4 (by decide)
 have e5 : v19 5 = (eN (D * B)) := hd 5 (by decide)
 have e6 : v19 6 = (ptr gb 2) := hd 6 (by decide)
 have e7 : v19 7 = (eN Q) := hd 7 (by decide)
 have e8 : v19 8 = (eN ((D * B) * Q)) := hd 8 (by decide)
 obtain ⟨q, e9, a22, g23⟩ : ∃ b_, v19 9 = (fun b_ => (sli b_ 0 ((D * B) * Q) ((D * B) * Q))) b_ ∧ Arr 36 b_ (List.replicate ((D * B) * Q) vN) w20 ∧ w15.heap.size ≤ b_ := hd 9 (by decide)
 dsimp only at e9
 have n_gb_q : gb ≠ q := a13.ne g23
 have n_r_q : r ≠ q := a17.ne g23
 have g_oW_q : W.heap.size ≤ q := Nat.le_trans oW.size g23
 clear hd iv_ lo_ hi_
 refine wpL.flat [(ag3 D B Q), (ptr gb 0), (ptr r 0), (ag3 D B Q), (ptr gb 0), (eN D), (ptr gb 1), (eN B), (eN (D * B)), (ptr gb 2), (eN Q), (eN ((D * B) * Q)), (sli q 0 ((D * B) * Q) ((D * B) * Q)), undef] (by rw [e0, e1, e2, e3, e4, e5, e6, e7, e8, e9] <;> rfl) ?_
 clear e0 e1 e2 e3 e4 e5 e6 e7 e8 e9
 obtain ⟨xr_a13, xr_a17⟩ := hR
 replace a13 : Arr 23 gb [(eN D), (eN B), (eN Q)] w20 := xr_a13
 replace a17 : Arr 65 r [(eN 0), (eN 0), (eN 0), vN] w20 := xr_a17
 clear xr_a13 xr_a17
 replace oW := oW.tail o21 (tl_new g_oW_r (tl_new g_oW_gb tl_no))
 refine wI (d_buildS (pl := [(0, 3), (3, 1)]) (zs := [(eN 0), (eN 0), (eN 0), vN]) (cs := [(eN D), (eN B), (eN Q), (sli q 0 ((D * B) * Q) ((D * B) * Q))]) Try.underlying65 s_ti65 ⟨_, _, _, _, rfl, s_ti23, ⟨_, _, _, _, rfl, s_ti63, rfl⟩⟩ rfl (parts_cons (vs := [(eN D), (eN B), (eN Q)]) (cells_of (v := (ag3 D B Q)) rfl rfl) (parts_cons (vs := [(sli q 0 ((D * B) * Q) ((D * B) * Q))]) (cells_of (v := (sli q 0 ((D * B) * Q) ((D * B) * Q))) rfl rfl) parts_nil)) rfl) ?_
 refine wO (d_storeAg (cs' := [(eN D), (eN B), (eN Q), (sli q 0 ((D * B) * Q) ((D * B) * Q))]) s_ti65 rfl rfl rfl (oc_cons rfl (oc_cons rfl (oc_cons rfl (oc_cons rfl oc_nil)))) a17 (by decide) rfl) ?_
 rintro _ w24 ⟨a25, o26⟩
 replace a13 := a13.step o26 (fun e => absurd e n_gb_r)
 replace a22 := a22.step o26 (fun e => absurd e (Ne.symm n_r_q))
 replace oW := oW.tailb o26 g_oW_r
 refine wF [(ag3 D B Q), (ptr gb 0), (ptr r 0), (ag3 D B Q), (ptr gb 0), (eN D), (ptr gb 1), (eN B), (eN (D * B)), (ptr gb 2), (eN Q), (eN ((D * B) * Q)), (sli q 0 ((D * B) * Q) ((D * B) * Q)), (Value.agg #[(eN D), (eN B), (eN Q), (sli q 0 ((D * B) * Q) ((D * B) * Q))])] ?_
 refine wD (tN ?_)
 refine wpIn_ret ?_
 refine leave0 (v := (Value.agg #[(eN D), (eN B), (eN Q), (sli q 0 ((D * B) * Q) ((D * B) * Q))])) (resC Try.results37 ⟨_, Try.underlying65, rfl⟩ s_ti65 rfl a25 rfl) ?_
 exact ⟨q, rfl, g_oW_q, a22, oW⟩
theorem noneZ_ok (D B Q : Nat) (W : World) (hD : 6 ≤ D ∧ D ≤ 8) (hB : 8 ≤ B ∧ B ≤ 12) (hQ : 4 ≤ Q ∧ Q ≤ 8) :
    CW Try.prog 38 #[(ag3 D B Q)] W (Rt (Made 37 W (fun b_ => .agg #[eN D, eN B, eN Q, sli b_ 0 (D * B * Q) (D * B * Q)]) (List.replicate (D * B * Q) vN))) := by
 have oW : Only No W W := Only.refl _ _
 refine enter (al := [(ag3 D B Q)]) (k := 13) (l := ([(ag3 D B Q)] ++ (us 13))) Try.func38 rfl Try.ntmps38 rfl rfl ?_
 have m1_ : D * B ≤ 8 * 12 := Nat.mul_le_mul hD.2 hB.2
 have m2_ : D * B * Q ≤ 8 * 12 * 8 := Nat.mul_le_mul m1_ hQ.2
 refine wQ (pL ?_)
 refine wO (d_box rfl rfl) ?_
 rintro _ w11 ⟨gb, rfl, g12, a13, o14⟩
 have g_oW_gb : W.heap.size ≤ gb := Nat.le_trans oW.size g12
 replace oW := oW.tail0 o14
 refine wO (d_alloc s_ti69 rfl) ?_
 rintro _ w15 ⟨r, rfl, g16, a17, o18⟩
 have n_gb_r : gb ≠ r := a13.ne g16
 have g_oW_r : W.heap.size ≤ r := Nat.le_trans oW.size g16
 replace a13 := a13.step0 o18
 replace oW := oW.tail0 o18
 refine wD (tN (wQ ?_))
 refine wp_eq (l' := ([(ag3 D B Q), (ptr gb 0), (ptr r 0)] ++ (us 11))) rfl ?_
 have hX0_ : ∀ k, (Or1 r (Or1 gb (Old W.heap.size))) k → k < w15.heap.size := (lt_or1 a17.lt (lt_or1 a13.lt (fun k t => Nat.lt_of_lt_of_le t oW.size)))
 have hO0_ : ∀ k, (Or1 r (Or1 gb No)) k → k < w15.heap.size := fun k h => hX0_ k ((or1_mono (or1_mono no_any)) k h)
 refine drawnT (O := (Or1 r (Or1 gb No))) (n := 12) 10 [0, 0, 2, 0, 8, 30, 0, 64, 254, 510, 1023, 2047] [(0, 3), (1, 4), (2, 5), (3, 6), (4, 7), (5, 8), (6, 9), (7, 10), (8, 11), (9, 12), (10, 13)] [(0, 3), (1, 4), (2, 5), (3, 6), (4, 7), (5, 8), (6, 9), (7, 10), (8, 11), (9, 12)] [0, 1, 2, 3, 4, 5, 6, 7, 8, 9] [] (fun i_ => ([RF.is (Or1 r (Or1 gb No)) (ag3 D B Q), RF.is (Or1 r (Or1 gb No)) (ptr gb 0), RF.is (Or1 r (Or1 gb No)) (eN D), RF.is (Or1 r (Or1 gb No)) (ptr gb 1), RF.is (Or1 r (Or1 gb No)) (eN B), RF.is (Or1 r (Or1 gb No)) (eN (D * B)), RF.is (Or1 r (Or1 gb No)) (ptr gb 2), RF.is (Or1 r (Or1 gb No)) (eN Q), RF.is (Or1 r (Or1 gb No)) (eN ((D * B) * Q)), RF.mk_ (Or1 r (Or1 gb No)) (fun b_ => (sli b_ 0 ((D * B) * Q) ((D * B) * Q))) 37 (List.replicate ((D * B) * Q) vN) w15.heap.size hO0_] : List (RF (Or1 r (Or1 gb No)))).getD i_ (RF.any (Or1 r (Or1 gb No)))) (fun _ w_ => Arr 23 gb [(eN D), (eN B), (eN Q)] w_ ∧ Arr 69 r [(eN 0), (eN 0), (eN 0), vN] w_) (fun v19 => [(ag3 D B Q), (ptr gb 0), (ptr r 0), (v19 0), (v19 1), (v19 2), (v19 3), (v19 4), (v19 5), (v19 6), (v19 7), (v19 8), (v19 9), (v19 10)]) (fun v19 => [(ag3 D B Q), (ptr gb 0), (ptr r 0), (v19 0), (v19 1), (v19 2), (v19 3), (v19 4), (v19 5), (v19 6), (v19 7), (v19 8), (v19 9), undef]) s_mx kr rfl (by decide) (by rfl) kr kr kr (by rfl) (fun v_ => by kernel_rfl) (fun v_ => by kernel_rfl) (fun _ => fun w_ w2_ h ho => by obtain ⟨r_a13, r_a17⟩ := h; exact ⟨r_a13.step0 ho, r_a17.step0 ho⟩) ⟨a13, a17⟩ ?_ ?_ ?_
 ·
  refine ls_cons ?_ ?_
  ·
   intro v19 lo hi w_ k_ hO hd _ _ hk_ _ hR hold
   obtain ⟨r_a13, r_a17⟩ := hR
   clear hd hold
   refine ⟨_, rfl, gd rfl ?_⟩
   exact Does.is (d_loadAg (vs := [(eN D), (eN B), (eN Q)]) ⟨_, Try.underlying23, rfl⟩ s_ti23 rfl r_a13 rfl rfl)
  refine ls_cons ?_ ?_
  ·
   intro v19 lo hi w_ k_ hO hd _ _ hk_ _ hR hold
   obtain ⟨r_a13, r_a17⟩ := hR
   clear hd hold
   refine ⟨_, rfl, gd rfl ?_⟩
   exact Does.is (d_fieldAddr (j := 0) Try.underlying23 rfl s_ti3 (by decide) rfl rfl)
  refine ls_cons ?_ ?_
  ·
   intro v19 lo hi w_ k_ hO hd _ _ hk_ _ hR hold
   obtain ⟨r_a13, r_a17⟩ := hR
   have e1 : v19 1 = (ptr gb 0) := hd 1 kr
   clear hd hold
   refine ⟨_, rfl, gd rfl ?_⟩
   exact Does.is (d_load (v := (eN D)) ⟨_, Try.underlying3, rfl⟩ e1 r_a13 rfl)
  refine ls_cons ?_ ?_
  ·
   intro v19 lo hi w_ k_ hO hd _ _ hk_ _ hR hold
   obtain ⟨r_a13, r_a17⟩ := hR
   clear hd hold
   refine ⟨_, rfl, gd rfl ?_⟩
   exact Does.is (d_fieldAddr (j := 1) Try.underlying23 rfl s_ti3 (by decide) rfl rfl)
  refine ls_cons ?_ ?_
  ·
   intro v19 lo hi w_ k_ hO hd _ _ hk_ _ hR hold
   obtain ⟨r_a13, r_a17⟩ := hR
   have e3 : v19 3 = (ptr gb 1) := hd 3 kr
   clear hd hold
   refine ⟨_, rfl, gd rfl ?_⟩
   exact Does.is (d_load (v := (eN B)) ⟨_, Try.underlying3, rfl⟩ e3 r_a13 rfl)
  refine ls_cons ?_ ?_
  ·
   intro v19 lo hi w_ k_ hO hd _ _ hk_ _ hR hold
   obtain ⟨r_a13, r_a17⟩ := hR
   have e2 : v19 2 = (eN D) := hd 2 kr
   have e4 : v19 4 = (eN B) := hd 4 kr
   clear hd hold
   refine ⟨_, rfl, gd rfl ?_⟩
   exact Does.is (n_mul (a := D) (b := B) e2 e4 oo)
  refine ls_cons ?_ ?_
  ·
   intro v19 lo hi w_ k_ hO hd _ _ hk_ _ hR hold
   obtain ⟨r_a13, r_a17⟩ := hR
   clear hd hold
   refine ⟨_, rfl, gd rfl ?_⟩
   exact Does.is (d_fieldAddr (j := 2) Try.underlying23 rfl s_ti3 (by decide) rfl rfl)
  refine ls_cons ?_ ?_
  ·
   intro v19 lo hi w_ k_ hO hd _ _ hk_ _ hR hold
   obtain ⟨r_a13, r_a17⟩ := hR
   have e6 : v19 6 = (ptr gb 2) := hd 6 kr
   clear hd hold
   refine ⟨_, rfl, gd rfl ?_⟩
   exact Does.is (d_load (v := (eN Q)) ⟨_, Try.underlying3, rfl⟩ e6 r_a13 rfl)
  refine ls_cons ?_ ?_
  ·
   intro v19 lo hi w_ k_ hO hd _ _ hk_ _ hR hold
   obtain ⟨r_a13, r_a17⟩ := hR
   have e5 : v19 5 = (eN (D * B)) := hd 5 kr
   have e7 : v19 7 = (eN Q) := hd 7 kr
   clear hd hold
   refine ⟨_, rfl, gd rfl ?_⟩
   exact Does.is (n_mul (a := (D * B)) (b := Q) e5 e7 oo)
  refine ls_cons ?_ ?_
  ·
   intro v19 lo hi w_ k_ hO hd _ _ hk_ _ hR hold
   obtain ⟨r_a13, r_a17⟩ := hR
   have e8 : v19 8 = (eN ((D * B) * Q)) := hd 8 kr
   clear hd hold
   refine ⟨_, rfl, gd rfl ?_⟩
   refine Does.mono (d_make1 (n := (D * B) * Q) Try.underlying67 s_ti37 e8 e8 oo oo rfl) (fun u w' h => by obtain ⟨b_, rfl, hb_, hA_, hO_⟩ := h; exact ⟨⟨b_, rfl, hA_, Nat.le_trans hO.size hb_⟩, hO_⟩)
  exact ls_nil
 ·
  exact ms_nil
 intro v19 lo_ hi_ w20 o21 hd iv_ hR
 have e0 : v19 0 = (ag3 D B Q) := hd 0 (by decide)
 have e1 : v19 1 = (ptr gb 0) := hd 1 (by decide)
 have e2 : v19 2 = (eN D) := hd 2 (by decide)
 have e3 : v19 3 = (ptr gb 1) := hd 3 (by decide)
 have e4 : v19 4 = (eN B) := hd 4 (by decide)
 have e5 : v19 5 = (eN (D * B)) := hd 5 (by decide)
 have e6 : v19 6 = (ptr gb 2) := hd 6 (by decide)
 have e7 : v19 7 = (eN Q) := hd 7 (by decide)
 have e8 : v19 8 = (eN ((D * B) * Q)) := hd 8 (by decide)
 obtain ⟨q, e9, a22, g23⟩ : ∃ b_, v19 9 = (fun b_ => (sli b_ 0 ((D * B) * Q) ((D * B) * Q))) b_ ∧ Arr 37 b_ (List.replicate ((D * B) * Q) vN) w20 ∧ w15.heap.size ≤ b_ := hd 9 (by decide)
 dsimp only at e9
 have n_gb_q : gb ≠ q := a13.ne g23
 have n_r_q : r ≠ q := a17.ne g23
 have g_oW_q : W.heap.size ≤ q := Nat.le_trans oW.size g23
 clear hd iv_ lo_ hi_
 refine wpL.flat [(ag3 D B Q), (ptr gb 0), (ptr r 0), (ag3 D B Q), (ptr gb 0), (eN D), (ptr gb 1), (eN B), (eN (D * B)), (ptr gb 2), (eN Q), (eN ((D * B) * Q)), (sli q 0 ((D * B) * Q) ((D * B) * Q)), undef] (by rw [e0, e1, e2, e3, e4, e5, e6, e7, e8, e9] <;> rfl) ?_
 clear e0 e1 e2 e3 e4 e5 e6 e7 e8 e9
 obtain ⟨xr_a13, xr_a17⟩ := hR
 replace a13 : Arr 23 gb [(eN D), (eN B), (eN Q)] w20 := xr_a13
 replace a17 : Arr 69 r [(eN 0), (eN 0), (eN 0), vN] w20 := xr_a17
 clear xr_a13 xr_a17
 replace oW := oW.tail o21 (tl_new g_oW_r (tl_new g_oW_gb tl_no))
 refine wI (d_buildS (pl := [(0, 3), (3, 1)]) (zs := [(eN 0), (eN 0), (eN 0), vN]) (cs := [(eN D), (eN B), (eN Q), (sli q 0 ((D * B) * Q) ((D * B) * Q))]) Try.underlying69 s_ti69 ⟨_, _, _, _, rfl, s_ti23, ⟨_, _, _, _, rfl, s_ti67, rfl⟩⟩ rfl (parts_cons (vs := [(eN D), (eN B), (eN Q)]) (cells_of (v := (ag3 D B Q)) rfl rfl) (parts_cons (vs := [(sli q 0 ((D * B) * Q) ((D * B) * Q))]) (cells_of (v := (sli q 0 ((D * B) * Q) ((D * B) * Q))) rfl rfl) parts_nil)) rfl) ?_
 refine wO (d_storeAg (cs' := [(eN D), (eN B), (eN Q), (sli q 0 ((D * B) * Q) ((D * B) * Q))]) s_ti69 rfl rfl rfl (oc_cons rfl (oc_cons rfl (oc_cons rfl (oc_cons rfl oc_nil)))) a17 (by decide) rfl) ?_
 rintro _ w24 ⟨a25, o26⟩
 replace a13 := a13.step o26 (fun e => absurd e n_gb_r)
 replace a22 := a22.step o26 (fun e => absurd e (Ne.symm n_r_q))
 replace oW := oW.tailb o26 g_oW_r
 refine wF [(ag3 D B Q), (ptr gb 0), (ptr r 0), (ag3 D B Q), (ptr gb 0), (eN D), (ptr gb 1), (eN B), (eN (D * B)), (ptr gb 2), (eN Q), (eN ((D * B) * Q)), (sli q 0 ((D * B) * Q) ((D * B) * Q)), (Value.agg #[(eN D), (eN B), (eN Q), (sli q 0 ((D * B) * Q) ((D * B) * Q))])] ?_
 refine wD (tN ?_)
 refine wpIn_ret ?_
 refine leave0 (v := (Value.agg #[(eN D), (eN B), (eN Q), (sli q 0 ((D * B) * Q) ((D * B) * Q))])) (resC Try.results38 ⟨_, Try.underlying69, rfl⟩ s_ti69 rfl a25 rfl) ?_
 exact ⟨q, rfl, g_oW_q, a22, oW⟩
theorem new0_ok (D B Q : Nat) (W : World) (hD : 6 ≤ D ∧ D ≤ 8) (hB : 8 ≤ B ∧ B ≤ 12) (hQ : 4 ≤ Q ∧ Q ≤ 8) :
    CW Try.prog 13 #[(ag3 D B Q), vN] W (Rt (fun u w => ∃ L, u = .tuple #[ptr L.bN 0, eN 0] ∧ (Nd L (NS.new D B Q (fun _ _ => false)) (Old W.heap.size) w ∧ ∀ k, L.S k → W.heap.size ≤ k) ∧ Only No W w)) := by
 have oW : Only No W W := Only.refl _ _
 refine enter (al := [(ag3 D B Q), vN]) (k := 80) (l := ([(ag3 D B Q), vN] ++ (us 80))) Try.func13 rfl Try.ntmps13 rfl rfl ?_
 have m1_ : D * B ≤ 8 * 12 := Nat.mul_le_mul hD.2 hB.2
 have m2_ : D * B * Q ≤ 8 * 12 * 8 := Nat.mul_le_mul m1_ hQ.2
 refine wQ (pL ?_)
 refine wO (d_box rfl rfl) ?_
 rintro _ w11 ⟨gb, rfl, g12, a13, o14⟩
 have g_oW_gb : W.heap.size ≤ gb := Nat.le_trans oW.size g12
 replace oW := oW.tail0 o14
 refine wI (d_assign rfl) ?_
 refine wI (d_assign rfl) ?_
 refine wD (tN (wQ (wQ (pL ?_))))
 refine wI (d_loadAg (vs := [(eN D), (eN B), (eN Q)]) ⟨_, Try.underlying23, rfl⟩ s_ti23 rfl a13 rfl rfl) ?_
 refine wO (d_call (xl := [.tmp 10]) (al := [(ag3 D B Q)]) Try.func36 kr rfl rfl rfl (fits_ok D B Q _ oo oo oo)) ?_
 rintro _ w15 ⟨rfl, o16⟩
 replace a13 := a13.step0 o16
 replace oW := oW.tail0 o16
 refine wI (d_not rfl rfl) ?_
 refine wD (tN ?_)
 refine cond_f rfl ?_
 refine wK (tN (wQ ?_))
 refine wp_eq (l' := ([(ag3 D B Q), vN, (ptr gb 0), undef, (Value.pointer none), (eN 0), undef, undef, undef, undef, (ag3 D B Q), vT, vF] ++ (us 69))) rfl ?_
 have hX0_ : ∀ k, (Or1 gb (Old W.heap.size)) k → k < w15.heap.size := (lt_or1 a13.lt (fun k t => Nat.lt_of_lt_of_le t oW.size))
 have hO0_ : ∀ k, (Or1 gb No) k → k < w15.heap.size := fun k h => hX0_ k ((or1_mono no_any) k h)
 refine drawnT (O := (Or1 gb No)) (n := 8) 5 [0, 0, 2, 0, 14, 31, 63, 127] [(0, 13), (1, 14), (2, 15), (3, 16), (4, 17), (5, 18), (6, 19), (7, 6)] [(0, 13), (1, 14), (2, 15), (3, 16), (4, 17)] [0, 1, 2, 3, 4] [] (fun i_ => ([RF.is (Or1 gb No) (ag3 D B Q), RF.is (Or1 gb No) (ag3 D B Q), RF.mk_ (Or1 gb No) (fun b_ => (Value.agg #[(eN D), (eN B), (eN Q), (sli b_ 0 (D * B * Q) (D * B * Q))])) 36 (List.replicate (D * B * Q) vN) w15.heap.size hO0_, RF.is (Or1 gb No) (ag3 D B Q), RF.mk_ (Or1 gb No) (fun b_ => (Value.agg #[(eN D), (eN B), (eN Q), (sli b_ 0 (D * B * Q) (D * B * Q))])) 37 (List.replicate (D * B * Q) vN) w15.heap.size hO0_] : List (RF (Or1 gb No))).getD i_ (RF.any (Or1 gb No))) (fun _ w_ => Arr 23 gb [(eN D), (eN B), (eN Q)] w_) (fun v17 => ([(ag3 D B Q), vN, (ptr gb 0), undef, (Value.pointer none), (eN 0), (v17 7), undef, undef, undef, (ag3 D B Q), vT, vF, (v17 0), (v17 1), (v17 2), (v17 3), (v17 4), (v17 5), (v17 6)] ++ (us 62))) (fun v17 => ([(ag3 D B Q), vN, (ptr gb 0), undef, (Value.pointer none), (eN 0), undef, undef, undef, undef, (ag3 D B Q), vT, vF, (v17 0), (v17 1), (v17 2), (v17 3), (v17 4)] ++ (us 64))) s_mx kr rfl (by decide) (by rfl) kr kr kr (by rfl) (fun v_ => by kernel_rfl) (fun v_ => by kernel_rfl) (fun _ => fun w_ w2_ h ho => by have r_a13 := h; exact r_a13.step0 ho) a13 ?_ ?_ ?_
 ·
  refine ls_cons ?_ ?_
  ·
   intro v17 lo hi w_ k_ hO hd _ _ hk_ _ hR hold
   have r_a13 := hR
   clear hd hold
   refine ⟨_, rfl, gd rfl ?_⟩
   exact Does.is (d_loadAg (vs := [(eN D), (eN B), (eN Q)]) ⟨_, Try.underlying23, rfl⟩ s_ti23 rfl r_a13 rfl rfl)
  refine ls_cons ?_ ?_
  ·
   intro v17 lo hi w_ k_ hO hd _ _ hk_ _ hR hold
   have r_a13 := hR
   clear hd hold
   refine ⟨_, rfl, gd rfl ?_⟩
   exact Does.is (d_loadAg (vs := [(eN D), (eN B), (eN Q)]) ⟨_, Try.underlying23, rfl⟩ s_ti23 rfl r_a13 rfl rfl)
  refine ls_cons ?_ ?_
  ·
   intro v17 lo hi w_ k_ hO hd _ _ hk_ _ hR hold
   have r_a13 := hR
   have e1 : v17 1 = (ag3 D B Q) := hd 1 kr
   clear hd hold
   refine ⟨_, rfl, gd rfl ?_⟩
   refine Does.mono (R := Made 36 w_ (fun b_ => (Value.agg #[(eN D), (eN B), (eN Q), (sli b_ 0 (D * B * Q) (D * B * Q))])) (List.replicate (D * B * Q) vN)) ?_ (fun u w' h => by obtain ⟨b_, rfl, hb_, hA_, hO_⟩ := h; exact ⟨⟨b_, rfl, hA_, Nat.le_trans hO.size hb_⟩, hO_⟩)
   exact d_call (xl := [.tmp 14]) (al := [(ag3 D B Q)]) Try.func37 kr rfl (show ([(v17 1)] : List Value) = [(ag3 D B Q)] from by rw [e1]) rfl (noneD_ok D B Q _ oo oo oo)
  refine ls_cons ?_ ?_
  ·
   intro v17 lo hi w_ k_ hO hd _ _ hk_ _ hR hold
   have r_a13 := hR
   clear hd hold
   refine ⟨_, rfl, gd rfl ?_⟩
   exact Does.is (d_loadAg (vs := [(eN D), (eN B), (eN Q)]) ⟨_, Try.underlying23, rfl⟩ s_ti23 rfl r_a13 rfl rfl)
  refine ls_cons ?_ ?_
  ·
   intro v17 lo hi w_ k_ hO hd _ _ hk_ _ hR hold
   have r_a13 := hR
   have e3 : v17 3 = (ag3 D B Q) := hd 3 kr
   clear hd hold
   refine ⟨_, rfl, gd rfl ?_⟩
   refine Does.mono (R := Made 37 w_ (fun b_ => (Value.agg #[(eN D), (eN B), (eN Q), (sli b_ 0 (D * B * Q) (D * B * Q))])) (List.replicate (D * B * Q) vN)) ?_ (fun u w' h => by obtain ⟨b_, rfl, hb_, hA_, hO_⟩ := h; exact ⟨⟨b_, rfl, hA_, Nat.le_trans hO.size hb_⟩, hO_⟩)
   exact d_call (xl := [.tmp 16]) (al := [(ag3 D B Q)]) Try.func38 kr rfl (show ([(v17 3)] : List Value) = [(ag3 D B Q)] from by rw [e3]) rfl (noneZ_ok D B Q _ oo oo oo)
  exact ls_nil
 ·
  exact ms_nil
 intro v17 lo_ hi_ w18 o19 hd iv_ hR
 have e0 : v17 0 = (ag3 D B Q) := hd 0 (by decide)
 have e1 : v17 1 = (ag3 D B Q) := hd 1 (by decide)
 have e3 : v17 3 = (ag3 D B Q) := hd 3 (by decide)
 obtain ⟨db, e2, a20, g21⟩ : ∃ b_, v17 2 = (fun b_ => (Value.agg #[(eN D), (eN B), (eN Q), (sli b_ 0 (D * B * Q) (D * B * Q))])) b_ ∧ Arr 36 b_ (List.replicate (D * B * Q) vN) w18 ∧ w15.heap.size ≤ b_ := hd 2 (by decide)
 dsimp only at e2
 have n_gb_db : gb ≠ db := a13.ne g21
 have g_oW_db : W.heap.size ≤ db := Nat.le_trans oW.size g21
 obtain ⟨zb, e4, a22, g23⟩ : ∃ b_, v17 4 = (fun b_ => (Value.agg #[(eN D), (eN B), (eN Q), (sli b_ 0 (D * B * Q) (D * B * Q))])) b_ ∧ Arr 37 b_ (List.replicate (D * B * Q) vN) w18 ∧ w15.heap.size ≤ b_ := hd 4 (by decide)
 dsimp only at e4
 have n_gb_zb : gb ≠ zb := a13.ne g23
 have g_oW_zb : W.heap.size ≤ zb := Nat.le_trans oW.size g23
 have n_db_zb : db ≠ zb := arr_ne a20 a22 (by decide)
 clear hd iv_ lo_ hi_
 refine wpL.flat ([(ag3 D B Q), vN, (ptr gb 0), undef, (Value.pointer none), (eN 0), undef, undef, undef, undef, (ag3 D B Q), vT, vF, (ag3 D B Q), (ag3 D B Q), (Value.agg #[(eN D), (eN B), (eN Q), (sli db 0 (D * B * Q) (D * B * Q))]), (ag3 D B Q), (Value.agg #[(eN D), (eN B), (eN Q), (sli zb 0 (D * B * Q) (D * B * Q))])] ++ (us 64)) (by rw [e0, e1, e3, e2, e4] <;> rfl) ?_
 clear e0 e1 e3 e2 e4
 replace a13 : Arr 23 gb [(eN D), (eN B), (eN Q)] w18 := hR
 clear hR
 replace oW := oW.tail o19 (tl_new g_oW_gb tl_no)
 refine wI (d_buildS (pl := [(0, 3), (3, 4), (7, 4), (11, 1), (12, 1), (13, 1), (14, 1), (15, 1), (16, 1)]) (zs := [(eN 0), (eN 0), (eN 0), (eN 0), (eN 0), (eN 0), vN, (eN 0), (eN 0), (eN 0), vN, vN, (eN 0), vN, vF, (eN 0), (eN 0)]) (cs := [(eN D), (eN B), (eN Q), (eN D), (eN B), (eN Q), (sli db 0 (D * B * Q) (D * B * Q)), (eN D), (eN B), (eN Q), (sli zb 0 (D * B * Q) (D * B * Q)), vN, (eN 0), vN, vF, (eN 0), (eN 0)]) Try.underlying73 s_ti73 ⟨_, _, _, _, rfl, s_ti23, ⟨_, _, _, _, rfl, s_ti65, ⟨_, _, _, _, rfl, s_ti69, ⟨_, _, _, _, rfl, s_ti71, ⟨_, _, _, _, rfl, s_ti3, ⟨_, _, _, _, rfl, s_ti36, ⟨_, _, _, _, rfl, s_ti4, ⟨_, _, _, _, rfl, s_ti3, ⟨_, _, _, _, rfl, s_ti3, rfl⟩⟩⟩⟩⟩⟩⟩⟩⟩ rfl (parts_cons (vs := [(eN D), (eN B), (eN Q)]) (cells_of (v := (ag3 D B Q)) rfl rfl) (parts_cons (vs := [(eN D), (eN B), (eN Q), (sli db 0 (D * B * Q) (D * B * Q))]) (cells_of (v := (Value.agg #[(eN D), (eN B), (eN Q), (sli db 0 (D * B * Q) (D * B * Q))])) rfl rfl) (parts_cons (vs := [(eN D), (eN B), (eN Q), (sli zb 0 (D * B * Q) (D * B * Q))]) (cells_of (v := (Value.agg #[(eN D), (eN B), (eN Q), (sli zb 0 (D * B * Q) (D * B * Q))])) rfl rfl) parts_nil))) rfl) ?_
 refine wO (d_box rfl rfl) ?_
 rintro _ w24 ⟨cb, rfl, g25, a26, o27⟩
 have n_gb_cb : gb ≠ cb := a13.ne g25
 have n_db_cb : db ≠ cb := a20.ne g25
 have n_zb_cb : zb ≠ cb := a22.ne g25
 have g_oW_cb : W.heap.size ≤ cb := Nat.le_trans oW.size g25
 replace a13 := a13.step0 o27
 replace a20 := a20.step0 o27
 replace a22 := a22.step0 o27
 replace oW := oW.tail0 o27
 refine wI (d_assign rfl) ?_
 refine wF ([(ag3 D B Q), vN, (ptr gb 0), undef, (Value.pointer none), (eN 0), (ptr cb 0), undef, undef, undef, (ag3 D B Q), vT, vF, (ag3 D B Q), (ag3 D B Q), (Value.agg #[(eN D), (eN B), (eN Q), (sli db 0 (D * B * Q) (D * B * Q))]), (ag3 D B Q), (Value.agg #[(eN D), (eN B), (eN Q), (sli zb 0 (D * B * Q) (D * B * Q))]), (Value.agg #[(eN D), (eN B), (eN Q), (eN D), (eN B), (eN Q), (sli db 0 (D * B * Q) (D * B * Q)), (eN D), (eN B), (eN Q), (sli zb 0 (D * B * Q) (D * B * Q)), vN, (eN 0), vN, vF, (eN 0), (eN 0)]), (ptr cb 0)] ++ (us 62)) ?_
 refine wD (tN (wQ (wQ (pL ?_))))
 refine wI (d_move rfl) ?_
 refine wI (d_nilCheck (b := cb) (o := 0) rfl) ?_
 refine wI (d_fieldAddr (j := 3) Try.underlying73 rfl s_ti65 (by decide) rfl rfl) ?_
 refine wI (d_fieldAddr (j := 6) Try.underlying65 rfl s_ti63 (by decide) rfl rfl) ?_
 refine wI (d_load (v := (sli db 0 (D * B * Q) (D * B * Q))) ⟨_, Try.underlying63, rfl⟩ rfl a26 rfl) ?_
 refine wI (d_len rfl Try.underlying63 rfl) ?_
 refine wI (d_move rfl) ?_
 refine wD (tN (wB ?_))
 replace a20 : Arr 36 db ((List.replicate (D * B * Q) vN).map eV) w24 := by rw [map_eV]; exact a20
 have l_db : (List.replicate (D * B * Q) vN).length = D * B * Q := List.length_replicate
 refine loop2 (fun (s_ : (Nat) × (List Value)) => match s_ with | ⟨i, vd⟩ => fun (z : Nat → Value) => (([(ag3 D B Q), vN, (ptr gb 0), undef, (Value.pointer none), (eN 0), (ptr cb 0), (z 7), undef, undef, (ag3 D B Q), vT, vF, (ag3 D B Q), (ag3 D B Q), (Value.agg #[(eN D), (eN B), (eN Q), (sli db 0 (D * B * Q) (D * B * Q))]), (ag3 D B Q), (Value.agg #[(eN D), (eN B), (eN Q), (sli zb 0 (D * B * Q) (D * B * Q))]), (Value.agg #[(eN D), (eN B), (eN Q), (eN D), (eN B), (eN Q), (sli db 0 (D * B * Q) (D * B * Q)), (eN D), (eN B), (eN Q), (sli zb 0 (D * B * Q) (D * B * Q)), vN, (eN 0), vN, vF, (eN 0), (eN 0)]), (ptr cb 0), (ptr cb 0), (ptr cb 0), (ptr cb 3), (ptr cb 6), (sli db 0 (D * B * Q) (D * B * Q)), (eN (D * B * Q)), (eN i)] ++ (zs z 27 11 ++ (us 44))) : List Value)) (fun (s_ : (Nat) × (List Value)) => match s_ with | ⟨i, vd⟩ => fun (w_ : World) => (i ≤ D * B * Q) ∧ (Ps (Or1 cb (Or1 zb (Or1 db (Or1 gb (Old W.heap.size))))) (Fam kB i (fun _ => onesW) vd) w_) ∧ Only (Or1 cb (Or1 zb (Or1 db (Or1 gb No)))) w24 w_ ∧ Arr 23 gb [(eN D), (eN B), (eN Q)] w_ ∧ vd.length = D * B * Q ∧ Arr 36 db (vd.map eV) w_ ∧ Arr 37 zb (List.replicate (D * B * Q) vN) w_ ∧ Arr 73 cb [(eN D), (eN B), (eN Q), (eN D), (eN B), (eN Q), (sli db 0 (D * B * Q) (D * B * Q)), (eN D), (eN B), (eN Q), (sli zb 0 (D * B * Q) (D * B * Q)), vN, (eN 0), vN, vF, (eN 0), (eN 0)] w_) (fun (s_ : (Nat) × (List Value)) => match s_ with | ⟨i, vd⟩ => D * B * Q - i) ⟨0, (List.replicate (D * B * Q) vN)⟩ kr ?_ ?_
 ·
  refine ⟨?_, ?_, ?_, ?_, ?_, ?_, ?_, ?_⟩
  ·
   exact Nat.zero_le _
  ·
   exact fun w' _ k hk => absurd hk (Nat.not_lt_zero k)
  ·
   exact Only.refl _ _
  ·
   exact a13
  ·
   exact l_db
  ·
   exact a20
  ·
   exact a22
  ·
   exact a26
 rintro ⟨i, vd⟩ z w29 ⟨hi, hF, o28, a13, l_db, a20, a22, a26⟩
 (try dsimp only)
 replace oW := oW.tail o28 (tl_new g_oW_cb (tl_new g_oW_zb (tl_new g_oW_db (tl_new g_oW_gb tl_no))))
 refine wQ (pL ?_)
 refine wI (n_lss (a := i) (b := (D * B * Q)) rfl rfl rfl) ?_
 refine wD (tN (wQ ?_))
 refine cond_if rfl (fun c30 => ?_) (fun c30 => ?_)
 ·
  refine wK (tN (wQ (wB (wQ (pL ?_)))))
  refine wI (d_move rfl) ?_
  refine wI (d_assign rfl) ?_
  refine wD (tN ?_)
  refine wp_eq (l' := ([(ag3 D B Q), vN, (ptr gb 0), undef, (Value.pointer none), (eN 0), (ptr cb 0), (eN i), undef, undef, (ag3 D B Q), vT, vF, (ag3 D B Q), (ag3 D B Q), (Value.agg #[(eN D), (eN B), (eN Q), (sli db 0 (D * B * Q) (D * B * Q))]), (ag3 D B Q), (Value.agg #[(eN D), (eN B), (eN Q), (sli zb 0 (D * B * Q) (D * B * Q))]), (Value.agg #[(eN D), (eN B), (eN Q), (eN D), (eN B), (eN Q), (sli db 0 (D * B * Q) (D * B * Q)), (eN D), (eN B), (eN Q), (sli zb 0 (D * B * Q) (D * B * Q)), vN, (eN 0), vN, vF, (eN 0), (eN 0)]), (ptr cb 0), (ptr cb 0), (ptr cb 0), (ptr cb 3), (ptr cb 6), (sli db 0 (D * B * Q) (D * B * Q)), (eN (D * B * Q)), (eN i), (Value.bool (decide (i < (D * B * Q)))), (eN i)] ++ (zs z 29 9 ++ (us 44)))) rfl ?_
  refine drawnT (O := (Or1 cb (Or1 zb (Or1 db (Or1 gb No))))) (n := 9) 7 [0, 1, 3, 7, 15, 0, 0, 127, 255] [(0, 29), (1, 30), (2, 31), (3, 32), (4, 33), (5, 34), (6, 35), (7, 36)] [(0, 29), (1, 30), (2, 31), (3, 32), (4, 33), (5, 34), (6, 35)] [0, 1, 2, 3, 4, 5, 6] [] (fun i_ => ([RF.is (Or1 cb (Or1 zb (Or1 db (Or1 gb No)))) (ptr cb 0), RF.is (Or1 cb (Or1 zb (Or1 db (Or1 gb No)))) (ptr cb 0), RF.is (Or1 cb (Or1 zb (Or1 db (Or1 gb No)))) (ptr cb 3), RF.is (Or1 cb (Or1 zb (Or1 db (Or1 gb No)))) (ptr cb 6), RF.is (Or1 cb (Or1 zb (Or1 db (Or1 gb No)))) (sli db 0 (D * B * Q) (D * B * Q)), RF.is (Or1 cb (Or1 zb (Or1 db (Or1 gb No)))) (eN i), RF.ps (Or1 cb (Or1 zb (Or1 db (Or1 gb No)))) (Or1 cb (Or1 zb (Or1 db (Or1 gb (Old W.heap.size))))) (Seq kB onesW) (or1_mono (or1_mono (or1_mono (or1_mono no_any))))] : List (RF (Or1 cb (Or1 zb (Or1 db (Or1 gb No)))))).getD i_ (RF.any (Or1 cb (Or1 zb (Or1 db (Or1 gb No)))))) (fun _ w_ => Arr 23 gb [(eN D), (eN B), (eN Q)] w_ ∧ Arr 36 db (vd.map eV) w_ ∧ Arr 37 zb (List.replicate (D * B * Q) vN) w_ ∧ Arr 73 cb [(eN D), (eN B), (eN Q), (eN D), (eN B), (eN Q), (sli db 0 (D * B * Q) (D * B * Q)), (eN D), (eN B), (eN Q), (sli zb 0 (D * B * Q) (D * B * Q)), vN, (eN 0), vN, vF, (eN 0), (eN 0)] w_) (fun v31 => ([(ag3 D B Q), vN, (ptr gb 0), undef, (Value.pointer none), (eN 0), (ptr cb 0), (eN i), undef, undef, (ag3 D B Q), vT, vF, (ag3 D B Q), (ag3 D B Q), (Value.agg #[(eN D), (eN B), (eN Q), (sli db 0 (D * B * Q) (D * B * Q))]), (ag3 D B Q), (Value.agg #[(eN D), (eN B), (eN Q), (sli zb 0 (D * B * Q) (D * B * Q))]), (Value.agg #[(eN D), (eN B), (eN Q), (eN D), (eN B), (eN Q), (sli db 0 (D * B * Q) (D * B * Q)), (eN D), (eN B), (eN Q), (sli zb 0 (D * B * Q) (D * B * Q)), vN, (eN 0), vN, vF, (eN 0), (eN 0)]), (ptr cb 0), (ptr cb 0), (ptr cb 0), (ptr cb 3), (ptr cb 6), (sli db 0 (D * B * Q) (D * B * Q)), (eN (D * B * Q)), (eN i), (Value.bool (decide (i < (D * B * Q)))), (eN i), (v31 0), (v31 1), (v31 2), (v31 3), (v31 4), (v31 5), (v31 6), (v31 7), (z 37)] ++ (us 44))) (fun v31 => ([(ag3 D B Q), vN, (ptr gb 0), undef, (Value.pointer none), (eN 0), (ptr cb 0), (eN i), undef, undef, (ag3 D B Q), vT, vF, (ag3 D B Q), (ag3 D B Q), (Value.agg #[(eN D), (eN B), (eN Q), (sli db 0 (D * B * Q) (D * B * Q))]), (ag3 D B Q), (Value.agg #[(eN D), (eN B), (eN Q), (sli zb 0 (D * B * Q) (D * B * Q))]), (Value.agg #[(eN D), (eN B), (eN Q), (eN D), (eN B), (eN Q), (sli db 0 (D * B * Q) (D * B * Q)), (eN D), (eN B), (eN Q), (sli zb 0 (D * B * Q) (D * B * Q)), vN, (eN 0), vN, vF, (eN 0), (eN 0)]), (ptr cb 0), (ptr cb 0), (ptr cb 0), (ptr cb 3), (ptr cb 6), (sli db 0 (D * B * Q) (D * B * Q)), (eN (D * B * Q)), (eN i), (Value.bool (decide (i < (D * B * Q)))), (eN i), (v31 0), (v31 1), (v31 2), (v31 3), (v31 4), (v31 5), (v31 6), (z 36), (z 37)] ++ (us 44))) s_mx kr rfl (by decide) (by rfl) kr kr kr (by rfl) (fun v_ => by kernel_rfl) (fun v_ => by kernel_rfl) (fun _ => fun w_ w2_ h ho => by obtain ⟨r_a13, r_a20, r_a22, r_a26⟩ := h; exact ⟨r_a13.step0 ho, r_a20.step0 ho, r_a22.step0 ho, r_a26.step0 ho⟩) ⟨a13, a20, a22, a26⟩ ?_ ?_ ?_
  ·
   refine ls_cons ?_ ?_
   ·
    intro v31 lo hi w_ k_ hO hd _ _ hk_ _ hR hold
    obtain ⟨r_a13, r_a20, r_a22, r_a26⟩ := hR
    clear hd hold
    refine ⟨_, rfl, gd rfl ?_⟩
    exact Does.is (d_move rfl)
   refine ls_cons ?_ ?_
   ·
    intro v31 lo hi w_ k_ hO hd _ _ hk_ _ hR hold
    obtain ⟨r_a13, r_a20, r_a22, r_a26⟩ := hR
    have e0 : v31 0 = (ptr cb 0) := hd 0 kr
    clear hd hold
    refine ⟨_, rfl, gd rfl ?_⟩
    exact Does.is (d_nilCheck (b := cb) (o := 0) e0)
   refine ls_cons ?_ ?_
   ·
    intro v31 lo hi w_ k_ hO hd _ _ hk_ _ hR hold
    obtain ⟨r_a13, r_a20, r_a22, r_a26⟩ := hR
    have e1 : v31 1 = (ptr cb 0) := hd 1 kr
    clear hd hold
    refine ⟨_, rfl, gd rfl ?_⟩
    exact Does.is (d_fieldAddr (j := 3) Try.underlying73 rfl s_ti65 (by decide) e1 rfl)
   refine ls_cons ?_ ?_
   ·
    intro v31 lo hi w_ k_ hO hd _ _ hk_ _ hR hold
    obtain ⟨r_a13, r_a20, r_a22, r_a26⟩ := hR
    have e2 : v31 2 = (ptr cb 3) := hd 2 kr
    clear hd hold
    refine ⟨_, rfl, gd rfl ?_⟩
    exact Does.is (d_fieldAddr (j := 6) Try.underlying65 rfl s_ti63 (by decide) e2 rfl)
   refine ls_cons ?_ ?_
   ·
    intro v31 lo hi w_ k_ hO hd _ _ hk_ _ hR hold
    obtain ⟨r_a13, r_a20, r_a22, r_a26⟩ := hR
    have e3 : v31 3 = (ptr cb 6) := hd 3 kr
    clear hd hold
    refine ⟨_, rfl, gd rfl ?_⟩
    exact Does.is (d_load (v := (sli db 0 (D * B * Q) (D * B * Q))) ⟨_, Try.underlying63, rfl⟩ e3 r_a26 rfl)
   refine ls_cons ?_ ?_
   ·
    intro v31 lo hi w_ k_ hO hd _ _ hk_ _ hR hold
    obtain ⟨r_a13, r_a20, r_a22, r_a26⟩ := hR
    clear hd hold
    refine ⟨_, rfl, gd rfl ?_⟩
    exact Does.is (d_move rfl)
   refine ls_cons ?_ ?_
   ·
    intro v31 lo hi w_ k_ hO hd _ _ hk_ _ hR hold
    obtain ⟨r_a13, r_a20, r_a22, r_a26⟩ := hR
    clear hd hold
    refine ⟨_, rfl, gd rfl ?_⟩
    refine Does.mono (R := ROw 5 eB onesW w_) ?_ (fun u w' h => ⟨(h.ps).1.less (or1_old r_a26.lt (or1_old r_a22.lt (or1_old r_a20.lt (or1_old r_a13.lt (old_old (Nat.le_trans oW.size hO.size)))))), (h.ps).2⟩)
    exact d_call (xl := []) (al := []) Try.func39 kr rfl rfl rfl (blank_ok _)
   exact ls_nil
  ·
   exact ms_nil
  intro v31 lo_ hi_ w32 o33 hd iv_ hR
  have e0 : v31 0 = (ptr cb 0) := hd 0 (by decide)
  have e1 : v31 1 = (ptr cb 0) := hd 1 (by decide)
  have e2 : v31 2 = (ptr cb 3) := hd 2 (by decide)
  have e3 : v31 3 = (ptr cb 6) := hd 3 (by decide)
  have e4 : v31 4 = (sli db 0 (D * B * Q) (D * B * Q)) := hd 4 (by decide)
  have e5 : v31 5 = (eN i) := hd 5 (by decide)
  have f_v31_6 : Ps (Or1 cb (Or1 zb (Or1 db (Or1 gb (Old W.heap.size))))) (Seq kB onesW (v31 6)) w32 := hd 6 (by decide)
  clear hd iv_ lo_ hi_
  refine wpL.flat ([(ag3 D B Q), vN, (ptr gb 0), undef, (Value.pointer none), (eN 0), (ptr cb 0), (eN i), undef, undef, (ag3 D B Q), vT, vF, (ag3 D B Q), (ag3 D B Q), (Value.agg #[(eN D), (eN B), (eN Q), (sli db 0 (D * B * Q) (D * B * Q))]), (ag3 D B Q), (Value.agg #[(eN D), (eN B), (eN Q), (sli zb 0 (D * B * Q) (D * B * Q))]), (Value.agg #[(eN D), (eN B), (eN Q), (eN D), (eN B), (eN Q), (sli db 0 (D * B * Q) (D * B * Q)), (eN D), (eN B), (eN Q), (sli zb 0 (D * B * Q) (D * B * Q)), vN, (eN 0), vN, vF, (eN 0), (eN 0)]), (ptr cb 0), (ptr cb 0), (ptr cb 0), (ptr cb 3), (ptr cb 6), (sli db 0 (D * B * Q) (D * B * Q)), (eN (D * B * Q)), (eN i), (Value.bool (decide (i < (D * B * Q)))), (eN i), (ptr cb 0), (ptr cb 0), (ptr cb 3), (ptr cb 6), (sli db 0 (D * B * Q) (D * B * Q)), (eN i), (v31 6), (z 36), (z 37)] ++ (us 44)) (by rw [e0, e1, e2, e3, e4, e5] <;> rfl) ?_
  clear e0 e1 e2 e3 e4 e5
  replace hF := hF.step o33 (or1_mono (or1_mono (or1_mono (or1_mono no_any))))
  obtain ⟨xr_a13, xr_a20, xr_a22, xr_a26⟩ := hR
  replace a13 : Arr 23 gb [(eN D), (eN B), (eN Q)] w32 := xr_a13
  replace a20 : Arr 36 db (vd.map eV) w32 := xr_a20
  replace a22 : Arr 37 zb (List.replicate (D * B * Q) vN) w32 := xr_a22
  replace a26 : Arr 73 cb [(eN D), (eN B), (eN Q), (eN D), (eN B), (eN Q), (sli db 0 (D * B * Q) (D * B * Q)), (eN D), (eN B), (eN Q), (sli zb 0 (D * B * Q) (D * B * Q)), vN, (eN 0), vN, vF, (eN 0), (eN 0)] w32 := xr_a26
  clear xr_a13 xr_a20 xr_a22 xr_a26
  replace oW := oW.tail o33 (tl_new g_oW_cb (tl_new g_oW_zb (tl_new g_oW_db (tl_new g_oW_gb tl_no))))
  replace o28 := o28.tail o33 (tl_in in1 (tl_in (in2 in1) (tl_in (in2 (in2 in1)) (tl_in (in2 (in2 (in2 in1))) tl_no))))
  refine wI (d_index1 (n := (D * B * Q)) (i := i) Try.underlying63 s_ti36 rfl (show _ = Value.int _ (i : Int) from rfl) oo) ?_
  refine wO (d_store (b := db) (i := i) (v := (v31 6)) s_ti36 rfl rfl (Seq.one f_v31_6) a20 (by rw [List.length_map, l_db]; omega) (m_put vd i (v31 6) eV)) ?_
  rintro _ w34 ⟨a35, o36⟩
  replace hF := hF.stepb o36 (in2 (in2 in1))
  replace f_v31_6 := f_v31_6.stepb o36 (in2 (in2 in1))
  replace a13 := a13.step o36 (fun e => absurd e n_gb_db)
  replace a22 := a22.step o36 (fun e => absurd e (Ne.symm n_db_zb))
  replace a26 := a26.step o36 (fun e => absurd e (Ne.symm n_db_cb))
  replace oW := oW.tailb o36 g_oW_db
  replace o28 := o28.tail o36 (fun k _ e => by have : k = db := e; rw [this]; exact (in2 (in2 in1)))
  replace l_db : (vd.set i (v31 6) : List Value).length = D * B * Q := (List.length_set ..).trans l_db
  refine wF ([(ag3 D B Q), vN, (ptr gb 0), undef, (Value.pointer none), (eN 0), (ptr cb 0), (eN i), undef, undef, (ag3 D B Q), vT, vF, (ag3 D B Q), (ag3 D B Q), (Value.agg #[(eN D), (eN B), (eN Q), (sli db 0 (D * B * Q) (D * B * Q))]), (ag3 D B Q), (Value.agg #[(eN D), (eN B), (eN Q), (sli zb 0 (D * B * Q) (D * B * Q))]), (Value.agg #[(eN D), (eN B), (eN Q), (eN D), (eN B), (eN Q), (sli db 0 (D * B * Q) (D * B * Q)), (eN D), (eN B), (eN Q), (sli zb 0 (D * B * Q) (D * B * Q)), vN, (eN 0), vN, vF, (eN 0), (eN 0)]), (ptr cb 0), (ptr cb 0), (ptr cb 0), (ptr cb 3), (ptr cb 6), (sli db 0 (D * B * Q) (D * B * Q)), (eN (D * B * Q)), (eN i), (Value.bool (decide (i < (D * B * Q)))), (eN i), (ptr cb 0), (ptr cb 0), (ptr cb 3), (ptr cb 6), (sli db 0 (D * B * Q) (D * B * Q)), (eN i), (v31 6), (ptr db i), (z 37)] ++ (us 44)) ?_
  refine wD ?_
  refine inb_n (tN ?_)
  refine pL ?_
  refine wI (n_add (a := i) (b := 1) rfl rfl oo) ?_
  refine wI (d_move rfl) ?_
  refine wD (tN ?_)
  refine ⟨_, ⟨i + 1, vd.set i (v31 6)⟩, rfl, kr, ⟨?_, ?_, ?_, ?_, ?_, ?_, ?_, ?_⟩, ?_⟩
  ·
   (try dsimp only)
   all_goals (omega)
  ·
   (try dsimp only)
   all_goals (exact fam_next hF f_v31_6 (by rw [List.length_set] at l_db; omega))
  ·
   exact o28
  ·
   exact a13
  ·
   exact l_db
  ·
   exact a35
  ·
   exact a22
  ·
   exact a26
  ·
   (try dsimp only)
   all_goals (omega)
 refine wpIn_exit ?_
 refine then_x (then_x (inb_e ?_))
 refine tN (wQ (wQ ?_))
 obtain rfl : i = D * B * Q := by omega
 refine wp_eq (l' := ([(ag3 D B Q), vN, (ptr gb 0), undef, (Value.pointer none), (eN 0), (ptr cb 0), (z 7), undef, undef, (ag3 D B Q), vT, vF, (ag3 D B Q), (ag3 D B Q), (Value.agg #[(eN D), (eN B), (eN Q), (sli db 0 (D * B * Q) (D * B * Q))]), (ag3 D B Q), (Value.agg #[(eN D), (eN B), (eN Q), (sli zb 0 (D * B * Q) (D * B * Q))]), (Value.agg #[(eN D), (eN B), (eN Q), (eN D), (eN B), (eN Q), (sli db 0 (D * B * Q) (D * B * Q)), (eN D), (eN B), (eN Q), (sli zb 0 (D * B * Q) (D * B * Q)), vN, (eN 0), vN, vF, (eN 0), (eN 0)]), (ptr cb 0), (ptr cb 0), (ptr cb 0), (ptr cb 3), (ptr cb 6), (sli db 0 (D * B * Q) (D * B * Q)), (eN (D * B * Q)), (eN (D * B * Q)), (Value.bool (decide ((D * B * Q) < (D * B * Q))))] ++ (zs z 28 10 ++ (us 44)))) rfl ?_
 refine pL ?_
 refine wI (d_fieldAddr (j := 0) Try.underlying23 rfl s_ti3 (by decide) rfl rfl) ?_
 refine wI (d_load (v := (eN D)) ⟨_, Try.underlying3, rfl⟩ rfl a13 rfl) ?_
 refine wI (d_move rfl) ?_
 refine wD (tN (wB ?_))
 have a37 : Ow 75 1 none vN ([] : List (Nat)).length (([] : List (Nat)).map (eK B)) w29 := Ow.nil _ _ _
 have nq_bk_gb : ∀ x, (none : Option Nat) = some x → ¬ x = gb := fun x e => by cases e
 have nq_bk_db : ∀ x, (none : Option Nat) = some x → ¬ x = db := fun x e => by cases e
 have nq_bk_zb : ∀ x, (none : Option Nat) = some x → ¬ x = zb := fun x e => by cases e
 have nq_bk_cb : ∀ x, (none : Option Nat) = some x → ¬ x = cb := fun x e => by cases e
 have q_oW_bk : Fr none none W.heap.size := Fr.none
 have q_o28_bk : Fr none none w24.heap.size := Fr.none
 replace hF := hF.qnone
 have h_lt_gb := a13.lt
 have h_lt_db := a20.lt
 have h_lt_zb := a22.lt
 have h_lt_cb := a26.lt
 have h_lts_bk := a37.lts
 refine loop2 (fun (s_ : (Nat) × (List Nat) × (Option Nat) × (Value)) => match s_ with | ⟨j, bk, bo_bk, u_bk⟩ => fun (z : Nat → Value) => (([(ag3 D B Q), vN, (ptr gb 0), undef, (Value.pointer none), (eN 0), (ptr cb 0), (z 7), undef, undef, (ag3 D B Q), vT, vF, (ag3 D B Q), (ag3 D B Q), (Value.agg #[(eN D), (eN B), (eN Q), (sli db 0 (D * B * Q) (D * B * Q))]), (ag3 D B Q), (Value.agg #[(eN D), (eN B), (eN Q), (sli zb 0 (D * B * Q) (D * B * Q))]), (Value.agg #[(eN D), (eN B), (eN Q), (eN D), (eN B), (eN Q), (sli db 0 (D * B * Q) (D * B * Q)), (eN D), (eN B), (eN Q), (sli zb 0 (D * B * Q) (D * B * Q)), vN, (eN 0), vN, vF, (eN 0), (eN 0)]), (ptr cb 0), (ptr cb 0), (ptr cb 0), (ptr cb 3), (ptr cb 6), (sli db 0 (D * B * Q) (D * B * Q)), (eN (D * B * Q)), (eN (D * B * Q)), (Value.bool (decide ((D * B * Q) < (D * B * Q))))] ++ (zs z 28 10 ++ [(ptr gb 0), (eN D), (eN j)] ++ (zs z 41 14 ++ (us 27)))) : List Value)) (fun (s_ : (Nat) × (List Nat) × (Option Nat) × (Value)) => match s_ with | ⟨j, bk, bo_bk, u_bk⟩ => fun (w_ : World) => (j ≤ D) ∧ (bk.length = j) ∧ (bk.Nodup) ∧ (∀ x ∈ bk, x ≠ cb ∧ x ≠ db ∧ x ≠ zb ∧ W.heap.size ≤ x ∧ x < w_.heap.size) ∧ (∀ x, bo_bk = some x → x ∉ bk) ∧ (Ps (Orq bo_bk (Or1 cb (Or1 zb (Or1 db (Or1 gb (Old W.heap.size)))))) (fun w => ∀ q, q < j → Arr 77 (bk.getD q 0) (stC B (fun _ => St0)) w) w_) ∧ (Ps (Orq bo_bk (Or1 cb (Or1 zb (Or1 db (Or1 gb (fun k => k ∈ bk ∨ Old W.heap.size k)))))) (Fam kB (D * B * Q) (fun _ => onesW) vd) w_) ∧ Only (Orq none (Or1 cb (Or1 zb (Or1 db (Or1 gb No))))) w29 w_ ∧ Arr 23 gb [(eN D), (eN B), (eN Q)] w_ ∧ Arr 36 db (vd.map eV) w_ ∧ Arr 37 zb (List.replicate (D * B * Q) vN) w_ ∧ Arr 73 cb [(eN D), (eN B), (eN Q), (eN D), (eN B), (eN Q), (sli db 0 (D * B * Q) (D * B * Q)), (eN D), (eN B), (eN Q), (sli zb 0 (D * B * Q) (D * B * Q)), u_bk, (eN 0), vN, vF, (eN 0), (eN 0)] w_ ∧ Ow 75 1 bo_bk u_bk (bk).length ((bk).map (eK B)) w_ ∧ Fr bo_bk none w29.heap.size) (fun (s_ : (Nat) × (List Nat) × (Option Nat) × (Value)) => match s_ with | ⟨j, bk, bo_bk, u_bk⟩ => D - j) ⟨0, [], none, vN⟩ kr ?_ ?_
 ·
  refine ⟨?_, ?_, ?_, ?_, ?_, ?_, ?_, ?_, ?_, ?_, ?_, ?_, ?_, ?_⟩
  ·
   exact Nat.zero_le _
  ·
   exact rfl
  ·
   exact List.nodup_nil
  ·
   exact fun x hx => by cases hx
  ·
   exact fun x hx => by cases hx
  ·
   exact fun w' _ q hq => absurd hq (Nat.not_lt_zero q)
  ·
   (try dsimp only)
   all_goals (exact hF.less (by intro k _ h; simp only [Or1, Orq] at h ⊢; grind))
  ·
   exact Only.refl _ _
  ·
   exact a13
  ·
   exact a20
  ·
   exact a22
  ·
   exact a26
  ·
   exact a37
  ·
   exact Fr.same
 rintro ⟨j, bk, bo_bk, u_bk⟩ z w39 ⟨hi2, hl, hn, hb, hbo, hK, hG, o38, a13, a20, a22, a26, a37, qq_bk⟩
 (try dsimp only)
 have tq_oW := oW.size
 replace oW := oW.tail o38 (tl_q q_oW_bk (fun _ e => by cases e) (tl_new g_oW_cb (tl_new g_oW_zb (tl_new g_oW_db (tl_new g_oW_gb tl_no)))))
 replace q_oW_bk := qtr qq_bk q_oW_bk tq_oW
 have tq_o28 := o28.size
 replace o28 := o28.tail o38 (tl_q q_o28_bk (fun _ e => by cases e) (tl_in in1 (tl_in (in2 in1) (tl_in (in2 (in2 in1)) (tl_in (in2 (in2 (in2 in1))) tl_no)))))
 replace q_o28_bk := qtr qq_bk q_o28_bk tq_o28
 replace nq_bk_gb := nqs nq_bk_gb qq_bk h_lt_gb
 replace nq_bk_db := nqs nq_bk_db qq_bk h_lt_db
 replace nq_bk_zb := nqs nq_bk_zb qq_bk h_lt_zb
 replace nq_bk_cb := nqs nq_bk_cb qq_bk h_lt_cb
 have q_o38_bk := qq_bk
 have oH : Only (Orq bo_bk (Or1 cb (Or1 zb (Or1 db (Or1 gb No))))) w39 w39 := Only.refl _ _
 have q_oH_bk : Fr bo_bk bo_bk w39.heap.size := Fr.same
 refine wQ (pL ?_)
 refine wI (n_lss (a := j) (b := D) rfl rfl rfl) ?_
 refine wD (tN (wQ ?_))
 refine cond_if rfl (fun c40 => ?_) (fun c40 => ?_)
 ·
  refine wK (tN (wQ (wB ?_)))
  refine wp_eq (l' := ([(ag3 D B Q), vN, (ptr gb 0), undef, (Value.pointer none), (eN 0), (ptr cb 0), (z 7), undef, undef, (ag3 D B Q), vT, vF, (ag3 D B Q), (ag3 D B Q), (Value.agg #[(eN D), (eN B), (eN Q), (sli db 0 (D * B * Q) (D * B * Q))]), (ag3 D B Q), (Value.agg #[(eN D), (eN B), (eN Q), (sli zb 0 (D * B * Q) (D * B * Q))]), (Value.agg #[(eN D), (eN B), (eN Q), (eN D), (eN B), (eN Q), (sli db 0 (D * B * Q) (D * B * Q)), (eN D), (eN B), (eN Q), (sli zb 0 (D * B * Q) (D * B * Q)), vN, (eN 0), vN, vF, (eN 0), (eN 0)]), (ptr cb 0), (ptr cb 0), (ptr cb 0), (ptr cb 3), (ptr cb 6), (sli db 0 (D * B * Q) (D * B * Q)), (eN (D * B * Q)), (eN (D * B * Q)), (Value.bool (decide ((D * B * Q) < (D * B * Q))))] ++ (zs z 28 10 ++ [(ptr gb 0), (eN D), (eN j), (Value.bool (decide (j < D)))] ++ (zs z 42 13 ++ (us 27))))) rfl ?_
  have hX0_ : ∀ k, (Orq bo_bk (Or1 cb (Or1 zb (Or1 db (Or1 gb (Old W.heap.size)))))) k → k < w39.heap.size := (lt_orq a37.lts (lt_or1 a26.lt (lt_or1 a22.lt (lt_or1 a20.lt (lt_or1 a13.lt (fun k t => Nat.lt_of_lt_of_le t oW.size))))))
  have hO0_ : ∀ k, (Orq bo_bk (Or1 cb (Or1 zb (Or1 db (Or1 gb No))))) k → k < w39.heap.size := fun k h => hX0_ k ((orq_mono (or1_mono (or1_mono (or1_mono (or1_mono no_any))))) k h)
  refine drawnF (O := (Orq bo_bk (Or1 cb (Or1 zb (Or1 db (Or1 gb No)))))) (n := 13) [0] [9, 10, 11, 12] (fun i_ => nth [(ptr cb 0)] i_) 9 [0, 0, 2, 6, 14, 0, 32, 96, 224, 510, 1023, 2047, 4095] [(0, 42), (1, 43), (2, 44), (3, 45), (4, 46), (5, 47), (6, 48), (7, 49), (8, 50), (9, 51), (10, 52), (11, 53)] [(0, 42), (1, 43), (2, 44), (3, 45), (4, 46), (5, 47), (6, 48), (7, 49), (8, 50)] [0, 1, 2, 3, 4, 5, 6, 7, 8] [] (fun i_ => ([RF.is (Orq bo_bk (Or1 cb (Or1 zb (Or1 db (Or1 gb No))))) (ptr cb 0), RF.is (Orq bo_bk (Or1 cb (Or1 zb (Or1 db (Or1 gb No))))) (ptr cb 0), RF.is (Orq bo_bk (Or1 cb (Or1 zb (Or1 db (Or1 gb No))))) (ptr cb 0), RF.is (Orq bo_bk (Or1 cb (Or1 zb (Or1 db (Or1 gb No))))) (ptr cb 11), RF.is (Orq bo_bk (Or1 cb (Or1 zb (Or1 db (Or1 gb No))))) u_bk, RF.is (Orq bo_bk (Or1 cb (Or1 zb (Or1 db (Or1 gb No))))) (ptr gb 1), RF.is (Orq bo_bk (Or1 cb (Or1 zb (Or1 db (Or1 gb No))))) (eN B), RF.mk_ (Orq bo_bk (Or1 cb (Or1 zb (Or1 db (Or1 gb No))))) (fun b_ => (sli b_ 0 B B)) 77 (stC B (fun _ => St0)) w39.heap.size hO0_, RF.mkv_ (Orq bo_bk (Or1 cb (Or1 zb (Or1 db (Or1 gb No))))) (fun b_ => (sli b_ 0 1 1)) 75 (fun v41 => [(v41 7)]) w39.heap.size hO0_] : List (RF (Orq bo_bk (Or1 cb (Or1 zb (Or1 db (Or1 gb No))))))).getD i_ (RF.any (Orq bo_bk (Or1 cb (Or1 zb (Or1 db (Or1 gb No))))))) (fun _ w_ => Arr 23 gb [(eN D), (eN B), (eN Q)] w_ ∧ Arr 36 db (vd.map eV) w_ ∧ Arr 37 zb (List.replicate (D * B * Q) vN) w_ ∧ Arr 73 cb [(eN D), (eN B), (eN Q), (eN D), (eN B), (eN Q), (sli db 0 (D * B * Q) (D * B * Q)), (eN D), (eN B), (eN Q), (sli zb 0 (D * B * Q) (D * B * Q)), u_bk, (eN 0), vN, vF, (eN 0), (eN 0)] w_ ∧ Ow 75 1 bo_bk u_bk (bk).length ((bk).map (eK B)) w_) (fun v41 => ([(ag3 D B Q), vN, (ptr gb 0), undef, (Value.pointer none), (eN 0), (ptr cb 0), (z 7), undef, undef, (ag3 D B Q), vT, vF, (ag3 D B Q), (ag3 D B Q), (Value.agg #[(eN D), (eN B), (eN Q), (sli db 0 (D * B * Q) (D * B * Q))]), (ag3 D B Q), (Value.agg #[(eN D), (eN B), (eN Q), (sli zb 0 (D * B * Q) (D * B * Q))]), (Value.agg #[(eN D), (eN B), (eN Q), (eN D), (eN B), (eN Q), (sli db 0 (D * B * Q) (D * B * Q)), (eN D), (eN B), (eN Q), (sli zb 0 (D * B * Q) (D * B * Q)), vN, (eN 0), vN, vF, (eN 0), (eN 0)]), (ptr cb 0), (ptr cb 0), (ptr cb 0), (ptr cb 3), (ptr cb 6), (sli db 0 (D * B * Q) (D * B * Q)), (eN (D * B * Q)), (eN (D * B * Q)), (Value.bool (decide ((D * B * Q) < (D * B * Q))))] ++ (zs z 28 10 ++ [(ptr gb 0), (eN D), (eN j), (Value.bool (decide (j < D))), (v41 0), (v41 1), (v41 2), (v41 3), (v41 4), (v41 5), (v41 6), (v41 7), (v41 8), (v41 9), (v41 10), (v41 11), (z 54)] ++ (us 27)))) (fun v41 => ([(ag3 D B Q), vN, (ptr gb 0), undef, (Value.pointer none), (eN 0), (ptr cb 0), (z 7), undef, undef, (ag3 D B Q), vT, vF, (ag3 D B Q), (ag3 D B Q), (Value.agg #[(eN D), (eN B), (eN Q), (sli db 0 (D * B * Q) (D * B * Q))]), (ag3 D B Q), (Value.agg #[(eN D), (eN B), (eN Q), (sli zb 0 (D * B * Q) (D * B * Q))]), (Value.agg #[(eN D), (eN B), (eN Q), (eN D), (eN B), (eN Q), (sli db 0 (D * B * Q) (D * B * Q)), (eN D), (eN B), (eN Q), (sli zb 0 (D * B * Q) (D * B * Q)), vN, (eN 0), vN, vF, (eN 0), (eN 0)]), (ptr cb 0), (ptr cb 0), (ptr cb 0), (ptr cb 3), (ptr cb 6), (sli db 0 (D * B * Q) (D * B * Q)), (eN (D * B * Q)), (eN (D * B * Q)), (Value.bool (decide ((D * B * Q) < (D * B * Q))))] ++ (zs z 28 10 ++ [(ptr gb 0), (eN D), (eN j), (Value.bool (decide (j < D))), (v41 0), (v41 1), (v41 2), (v41 3), (v41 4), (v41 5), (v41 6), (v41 7), (v41 8), (z 51), (z 52), (z 53), (z 54)] ++ (us 27)))) s_mx kr rfl (by decide) (by rfl) kr kr kr kr (fun l2_ w_ hl_ hn_ => fl_cons (fl_move (t := 6) hn_ kr (by rfl) (by rfl)) (fl_nil)) (fl_cons (by rfl) (fl_nil)) kr kr (by rfl) (fun v_ => by kernel_rfl) (fun v_ => by kernel_rfl) (fun _ => fun w_ w2_ h ho => by obtain ⟨r_a13, r_a20, r_a22, r_a26, r_a37⟩ := h; exact ⟨r_a13.step0 ho, r_a20.step0 ho, r_a22.step0 ho, r_a26.step0 ho, r_a37.step0 ho⟩) ⟨a13, a20, a22, a26, a37⟩ ?_ ?_ ?_
  ·
   refine ls_cons ?_ ?_
   ·
    intro v41 lo hi w_ k_ hO hd _ _ hk_ _ hR hold
    obtain ⟨r_a13, r_a20, r_a22, r_a26, r_a37⟩ := hR
    clear hd hold
    refine ⟨_, rfl, gd rfl ?_⟩
    exact Does.is (d_move rfl)
   refine ls_cons ?_ ?_
   ·
    intro v41 lo hi w_ k_ hO hd _ _ hk_ _ hR hold
    obtain ⟨r_a13, r_a20, r_a22, r_a26, r_a37⟩ := hR
    clear hd hold
    refine ⟨_, rfl, gd rfl ?_⟩
    exact Does.is (d_move rfl)
   refine ls_cons ?_ ?_
   ·
    intro v41 lo hi w_ k_ hO hd _ _ hk_ _ hR hold
    obtain ⟨r_a13, r_a20, r_a22, r_a26, r_a37⟩ := hR
    have e1 : v41 1 = (ptr cb 0) := hd 1 kr
    clear hd hold
    refine ⟨_, rfl, gd rfl ?_⟩
    exact Does.is (d_nilCheck (b := cb) (o := 0) e1)
   refine ls_cons ?_ ?_
   ·
    intro v41 lo hi w_ k_ hO hd _ _ hk_ _ hR hold
    obtain ⟨r_a13, r_a20, r_a22, r_a26, r_a37⟩ := hR
    have e2 : v41 2 = (ptr cb 0) := hd 2 kr
    clear hd hold
    refine ⟨_, rfl, gd rfl ?_⟩
    exact Does.is (d_fieldAddr (j := 11) Try.underlying73 rfl s_ti71 (by decide) e2 rfl)
   refine ls_cons ?_ ?_
   ·
    intro v41 lo hi w_ k_ hO hd _ _ hk_ _ hR hold
    obtain ⟨r_a13, r_a20, r_a22, r_a26, r_a37⟩ := hR
    have e3 : v41 3 = (ptr cb 11) := hd 3 kr
    clear hd hold
    refine ⟨_, rfl, gd rfl ?_⟩
    exact Does.is (d_load (v := u_bk) ⟨_, Try.underlying71, rfl⟩ e3 r_a26 rfl)
   refine ls_cons ?_ ?_
   ·
    intro v41 lo hi w_ k_ hO hd _ _ hk_ _ hR hold
    obtain ⟨r_a13, r_a20, r_a22, r_a26, r_a37⟩ := hR
    clear hd hold
    refine ⟨_, rfl, gd rfl ?_⟩
    exact Does.is (d_fieldAddr (j := 1) Try.underlying23 rfl s_ti3 (by decide) rfl rfl)
   refine ls_cons ?_ ?_
   ·
    intro v41 lo hi w_ k_ hO hd _ _ hk_ _ hR hold
    obtain ⟨r_a13, r_a20, r_a22, r_a26, r_a37⟩ := hR
    have e5 : v41 5 = (ptr gb 1) := hd 5 kr
    clear hd hold
    refine ⟨_, rfl, gd rfl ?_⟩
    exact Does.is (d_load (v := (eN B)) ⟨_, Try.underlying3, rfl⟩ e5 r_a13 rfl)
   refine ls_cons ?_ ?_
   ·
    intro v41 lo hi w_ k_ hO hd _ _ hk_ _ hR hold
    obtain ⟨r_a13, r_a20, r_a22, r_a26, r_a37⟩ := hR
    have e6 : v41 6 = (eN B) := hd 6 kr
    clear hd hold
    refine ⟨_, rfl, gd rfl ?_⟩
    refine Does.mono (d_make (n := B) (cs := (stC B (fun _ => St0))) Try.underlying75 s_ti77 e6 e6 oo oo (made_st B)) (fun u w' h => by obtain ⟨b_, rfl, hb_, hA_, hO_⟩ := h; exact ⟨⟨b_, rfl, hA_, Nat.le_trans hO.size hb_⟩, hO_⟩)
   refine ls_cons ?_ ?_
   ·
    intro v41 lo hi w_ k_ hO hd _ _ hk_ _ hR hold
    obtain ⟨r_a13, r_a20, r_a22, r_a26, r_a37⟩ := hR
    obtain ⟨mb7, me7, ma7, mf7⟩ : ∃ b_, v41 7 = (fun b_ => (sli b_ 0 B B)) b_ ∧ Arr 77 b_ (stC B (fun _ => St0)) w_ ∧ w39.heap.size ≤ b_ := hd 7 kr
    clear hd hold
    refine ⟨_, rfl, gd rfl ?_⟩
    refine Does.mono (d_buildL (cs := [(v41 7)]) Try.underlying71 s_ti75 rfl (nb rfl) (parts_cons (vs := [(v41 7)]) (cells_of (v := (v41 7)) rfl (by rw [me7]; rfl)) parts_nil) rfl) (fun u w' h => by obtain ⟨b_, rfl, hb_, hA_, hO_⟩ := h; exact ⟨⟨b_, rfl, hA_, Nat.le_trans hO.size hb_⟩, hO_⟩)
   exact ls_nil
  ·
   exact ms_nil
  intro v41 lo_ hi_ w42 o43 hd hR
  have e0 : v41 0 = (ptr cb 0) := hd 0 (by decide)
  have e1 : v41 1 = (ptr cb 0) := hd 1 (by decide)
  have e2 : v41 2 = (ptr cb 0) := hd 2 (by decide)
  have e3 : v41 3 = (ptr cb 11) := hd 3 (by decide)
  have e4 : v41 4 = u_bk := hd 4 (by decide)
  have e5 : v41 5 = (ptr gb 1) := hd 5 (by decide)
  have e6 : v41 6 = (eN B) := hd 6 (by decide)
  obtain ⟨b49, e7, a44, g45⟩ : ∃ b_, v41 7 = (fun b_ => (sli b_ 0 B B)) b_ ∧ Arr 77 b_ (stC B (fun _ => St0)) w42 ∧ w39.heap.size ≤ b_ := hd 7 (by decide)
  dsimp only at e7
  have n_gb_b49 : gb ≠ b49 := a13.ne g45
  have n_db_b49 : db ≠ b49 := a20.ne g45
  have n_zb_b49 : zb ≠ b49 := a22.ne g45
  have n_cb_b49 : cb ≠ b49 := a26.ne g45
  have nq_bk_b49 : ∀ x, bo_bk = some x → ¬ x = b49 := fun x hx e => by have := a37.lts x hx; omega
  have g_oW_b49 : W.heap.size ≤ b49 := Nat.le_trans oW.size g45
  have g_o28_b49 : w24.heap.size ≤ b49 := Nat.le_trans o28.size g45
  have g_o38_b49 : w29.heap.size ≤ b49 := Nat.le_trans o38.size g45
  have g_oH_b49 : w39.heap.size ≤ b49 := Nat.le_trans oH.size g45
  obtain ⟨b50, e8, a46, g47⟩ : ∃ b_, v41 8 = (fun b_ => (sli b_ 0 1 1)) b_ ∧ Arr 75 b_ [(v41 7)] w42 ∧ w39.heap.size ≤ b_ := hd 8 (by decide)
  dsimp only at e8
  have n_gb_b50 : gb ≠ b50 := a13.ne g47
  have n_db_b50 : db ≠ b50 := a20.ne g47
  have n_zb_b50 : zb ≠ b50 := a22.ne g47
  have n_cb_b50 : cb ≠ b50 := a26.ne g47
  have nq_bk_b50 : ∀ x, bo_bk = some x → ¬ x = b50 := fun x hx e => by have := a37.lts x hx; omega
  have g_oW_b50 : W.heap.size ≤ b50 := Nat.le_trans oW.size g47
  have g_o28_b50 : w24.heap.size ≤ b50 := Nat.le_trans o28.size g47
  have g_o38_b50 : w29.heap.size ≤ b50 := Nat.le_trans o38.size g47
  have g_oH_b50 : w39.heap.size ≤ b50 := Nat.le_trans oH.size g47
  have n_b49_b50 : b49 ≠ b50 := arr_ne a44 a46 (by decide)
  rw [e7] at a46
  replace a46 : Arr 75 b50 (([b49] : List Nat).map (eK B)) w42 := a46
  clear hd lo_ hi_
  refine wS.flat ([(ag3 D B Q), vN, (ptr gb 0), undef, (Value.pointer none), (eN 0), (ptr cb 0), (z 7), undef, undef, (ag3 D B Q), vT, vF, (ag3 D B Q), (ag3 D B Q), (Value.agg #[(eN D), (eN B), (eN Q), (sli db 0 (D * B * Q) (D * B * Q))]), (ag3 D B Q), (Value.agg #[(eN D), (eN B), (eN Q), (sli zb 0 (D * B * Q) (D * B * Q))]), (Value.agg #[(eN D), (eN B), (eN Q), (eN D), (eN B), (eN Q), (sli db 0 (D * B * Q) (D * B * Q)), (eN D), (eN B), (eN Q), (sli zb 0 (D * B * Q) (D * B * Q)), vN, (eN 0), vN, vF, (eN 0), (eN 0)]), (ptr cb 0), (ptr cb 0), (ptr cb 0), (ptr cb 3), (ptr cb 6), (sli db 0 (D * B * Q) (D * B * Q)), (eN (D * B * Q)), (eN (D * B * Q)), (Value.bool (decide ((D * B * Q) < (D * B * Q))))] ++ (zs z 28 10 ++ [(ptr gb 0), (eN D), (eN j), (Value.bool (decide (j < D))), (ptr cb 0), (ptr cb 0), (ptr cb 0), (ptr cb 11), u_bk, (ptr gb 1), (eN B), (sli b49 0 B B), (sli b50 0 1 1), (z 51), (z 52), (z 53), (z 54)] ++ (us 27))) (by rw [e0, e1, e2, e3, e4, e5, e6, e7, e8] <;> rfl) ?_
  clear e0 e1 e2 e3 e4 e5 e6 e7 e8
  replace hG := ((hG.less (Y := (Or1 b49 (Orq bo_bk (Or1 cb (Or1 zb (Or1 db (Or1 gb (fun k => k ∈ bk ∨ Old W.heap.size k)))))))) (xx_new g45 xx_id)).less (Y := (Or1 b50 (Or1 b49 (Orq bo_bk (Or1 cb (Or1 zb (Or1 db (Or1 gb (fun k => k ∈ bk ∨ Old W.heap.size k))))))))) (xx_new g47 xx_id)).step o43 (or1_skip (or1_skip (orq_mono (or1_mono (or1_mono (or1_mono (or1_mono no_any)))))))
  replace hK := ((hK.less (Y := (Or1 b49 (Orq bo_bk (Or1 cb (Or1 zb (Or1 db (Or1 gb (Old W.heap.size)))))))) (xx_new g45 xx_id)).less (Y := (Or1 b50 (Or1 b49 (Orq bo_bk (Or1 cb (Or1 zb (Or1 db (Or1 gb (Old W.heap.size))))))))) (xx_new g47 xx_id)).step o43 (or1_skip (or1_skip (orq_mono (or1_mono (or1_mono (or1_mono (or1_mono no_any)))))))
  obtain ⟨xr_a13, xr_a20, xr_a22, xr_a26, xr_a37⟩ := hR
  replace a13 : Arr 23 gb [(eN D), (eN B), (eN Q)] w42 := xr_a13
  replace a20 : Arr 36 db (vd.map eV) w42 := xr_a20
  replace a22 : Arr 37 zb (List.replicate (D * B * Q) vN) w42 := xr_a22
  replace a26 : Arr 73 cb [(eN D), (eN B), (eN Q), (eN D), (eN B), (eN Q), (sli db 0 (D * B * Q) (D * B * Q)), (eN D), (eN B), (eN Q), (sli zb 0 (D * B * Q) (D * B * Q)), u_bk, (eN 0), vN, vF, (eN 0), (eN 0)] w42 := xr_a26
  replace a37 : Ow 75 1 bo_bk u_bk (bk).length ((bk).map (eK B)) w42 := xr_a37
  clear xr_a13 xr_a20 xr_a22 xr_a26 xr_a37
  replace oW := oW.tail o43 (tl_q q_oW_bk (fun _ e => by cases e) (tl_new g_oW_cb (tl_new g_oW_zb (tl_new g_oW_db (tl_new g_oW_gb tl_no)))))
  replace o28 := o28.tail o43 (tl_q q_o28_bk (fun _ e => by cases e) (tl_in in1 (tl_in (in2 in1) (tl_in (in2 (in2 in1)) (tl_in (in2 (in2 (in2 in1))) tl_no)))))
  replace o38 := o38.tail o43 (tl_q q_o38_bk (fun k e => (.inl e)) (tl_in (inq in1) (tl_in (inq (in2 in1)) (tl_in (inq (in2 (in2 in1))) (tl_in (inq (in2 (in2 (in2 in1)))) tl_no)))))
  replace oH := oH.tail o43 (tl_q q_oH_bk (fun k e => (.inl e)) (tl_in (inq in1) (tl_in (inq (in2 in1)) (tl_in (inq (in2 (in2 in1))) (tl_in (inq (in2 (in2 (in2 in1)))) tl_no)))))
  have l_b50 : (([b49] : List Nat) : List Nat).length = 1 := by simp
  refine wS.op rfl rfl (d_append Try.underlying71 Try.underlying71 s_ti75 rfl rfl rfl a37 (SrcV.of_seq (arr_seq a46 l_b50 (Nat.le_refl _)) (fun _ => rfl)) (by simp; omega) (by simp; omega) rfl) ?_
  rintro u48 w49 ⟨bo50, a51, o52, q53⟩
  replace a51 : Ow 75 1 bo50 u48 (bk ++ ([b49] : List Nat)).length ((bk ++ ([b49] : List Nat)).map (eK B)) w49 := by rw [List.length_append, List.map_append]; exact a51
  replace hG := hG.gr o52 (fun k e => (.inr (.inr (.inl e)))) (xx_or1 (xx_or1 (xx_re (Fr.of_or q53) (xx_or1 (xx_or1 (xx_or1 (xx_or1 xx_id)))))))
  replace hK := hK.gr o52 (fun k e => (.inr (.inr (.inl e)))) (xx_or1 (xx_or1 (xx_re (Fr.of_or q53) (xx_or1 (xx_or1 (xx_or1 (xx_or1 xx_id)))))))
  have nq2 := nqs nq_bk_gb (Fr.of_or q53) a13.lt
  replace a13 := a13.step o52 (fun e => nq_bk_gb _ e rfl)
  replace nq_bk_gb := nq2
  clear nq2
  have nq2 := nqs nq_bk_db (Fr.of_or q53) a20.lt
  replace a20 := a20.step o52 (fun e => nq_bk_db _ e rfl)
  replace nq_bk_db := nq2
  clear nq2
  have nq2 := nqs nq_bk_zb (Fr.of_or q53) a22.lt
  replace a22 := a22.step o52 (fun e => nq_bk_zb _ e rfl)
  replace nq_bk_zb := nq2
  clear nq2
  have nq2 := nqs nq_bk_cb (Fr.of_or q53) a26.lt
  replace a26 := a26.step o52 (fun e => nq_bk_cb _ e rfl)
  replace nq_bk_cb := nq2
  clear nq2
  have nq2 := nqs nq_bk_b49 (Fr.of_or q53) a44.lt
  replace a44 := a44.step o52 (fun e => nq_bk_b49 _ e rfl)
  replace nq_bk_b49 := nq2
  clear nq2
  have nq2 := nqs nq_bk_b50 (Fr.of_or q53) a46.lt
  replace a46 := a46.step o52 (fun e => nq_bk_b50 _ e rfl)
  replace nq_bk_b50 := nq2
  clear nq2
  have tq := oW.size
  replace oW := oW.tailr o52 q_oW_bk (fun _ e => by cases e)
  replace q_oW_bk := qtr (Fr.of_or q53) q_oW_bk tq
  clear tq
  have tq := o28.size
  replace o28 := o28.tailr o52 q_o28_bk (fun _ e => by cases e)
  replace q_o28_bk := qtr (Fr.of_or q53) q_o28_bk tq
  clear tq
  have tq := o38.size
  replace o38 := o38.tailr o52 q_o38_bk (fun k e => (.inl e))
  replace q_o38_bk := qtr (Fr.of_or q53) q_o38_bk tq
  clear tq
  have tq := oH.size
  replace oH := oH.tailr o52 q_oH_bk (fun k e => (.inl e))
  replace q_oH_bk := qtr (Fr.of_or q53) q_oH_bk tq
  clear tq
  refine wS.is rfl rfl (d_nilCheck (b := cb) (o := 0) rfl) ?_
  refine wS.is rfl rfl (d_fieldAddr (j := 11) Try.underlying73 rfl s_ti71 (by decide) rfl rfl) ?_
  refine wS.op rfl rfl (d_store s_ti71 rfl rfl (Ow.one a51) a26 (nb rfl) rfl) ?_
  rintro _ w54 ⟨a55, o56⟩
  replace hG := hG.stepb o56 (in2 (in2 (inq in1)))
  replace hK := hK.stepb o56 (in2 (in2 (inq in1)))
  replace a13 := a13.step o56 (fun e => absurd e n_gb_cb)
  replace a20 := a20.step o56 (fun e => absurd e n_db_cb)
  replace a22 := a22.step o56 (fun e => absurd e n_zb_cb)
  replace a44 := a44.step o56 (fun e => absurd e (Ne.symm n_cb_b49))
  replace a46 := a46.step o56 (fun e => absurd e (Ne.symm n_cb_b50))
  replace a51 := a51.step o56 (fun x hx e => nq_bk_cb x hx e)
  replace oW := oW.tailb o56 g_oW_cb
  replace o28 := o28.tail o56 (fun k _ e => by have : k = cb := e; rw [this]; exact in1)
  replace o38 := o38.tail o56 (fun k _ e => by have : k = cb := e; rw [this]; exact (inq in1))
  replace oH := oH.tail o56 (fun k _ e => by have : k = cb := e; rw [this]; exact (inq in1))
  refine wS.flat ([(ag3 D B Q), vN, (ptr gb 0), undef, (Value.pointer none), (eN 0), (ptr cb 0), (z 7), undef, undef, (ag3 D B Q), vT, vF, (ag3 D B Q), (ag3 D B Q), (Value.agg #[(eN D), (eN B), (eN Q), (sli db 0 (D * B * Q) (D * B * Q))]), (ag3 D B Q), (Value.agg #[(eN D), (eN B), (eN Q), (sli zb 0 (D * B * Q) (D * B * Q))]), (Value.agg #[(eN D), (eN B), (eN Q), (eN D), (eN B), (eN Q), (sli db 0 (D * B * Q) (D * B * Q)), (eN D), (eN B), (eN Q), (sli zb 0 (D * B * Q) (D * B * Q)), vN, (eN 0), vN, vF, (eN 0), (eN 0)]), (ptr cb 0), (ptr cb 0), (ptr cb 0), (ptr cb 3), (ptr cb 6), (sli db 0 (D * B * Q) (D * B * Q)), (eN (D * B * Q)), (eN (D * B * Q)), (Value.bool (decide ((D * B * Q) < (D * B * Q))))] ++ (zs z 28 10 ++ [(ptr gb 0), (eN D), (eN j), (Value.bool (decide (j < D))), (ptr cb 0), (ptr cb 0), (ptr cb 0), (ptr cb 11), u_bk, (ptr gb 1), (eN B), (sli b49 0 B B), (sli b50 0 1 1), u48, (ptr cb 0), (ptr cb 11), (z 54)] ++ (us 27))) kr ?_
  refine wS.done ?_
  refine inb_n (tN ?_)
  refine pL ?_
  refine wI (n_add (a := j) (b := 1) rfl rfl oo) ?_
  refine wI (d_move rfl) ?_
  refine wD (tN ?_)
  have szH := oH.size
  have gH := g_oH_b49
  refine ⟨_, ⟨j + 1, bk ++ [b49], bo50, u48⟩, rfl, kr, ⟨?_, ?_, ?_, ?_, ?_, ?_, ?_, ?_, ?_, ?_, ?_, ?_, ?_, ?_⟩, ?_⟩
  ·
   (try dsimp only)
   all_goals (omega)
  ·
   (try dsimp only)
   all_goals (rw [List.length_append, hl, List.length_singleton])
  ·
   (try dsimp only)
   all_goals (rw [List.nodup_append]; exact ⟨hn, List.nodup_cons.2 ⟨List.not_mem_nil, List.nodup_nil⟩, fun x hx y hy => by rw [List.mem_singleton.1 hy]; have := (hb x hx).2.2.2.2; omega⟩)
  ·
   (try dsimp only)
   all_goals (intro x hx; rcases List.mem_append.1 hx with hx | hx; (obtain ⟨h1, h2, h3, h4, h5⟩ := hb x hx; exact ⟨h1, h2, h3, h4, by omega⟩); (rw [List.mem_singleton.1 hx]; exact ⟨Ne.symm n_cb_b49, Ne.symm n_db_b49, Ne.symm n_zb_b49, g_oW_b49, a44.lt⟩))
  ·
   (try dsimp only)
   all_goals (intro x hx hm; rcases List.mem_append.1 hm with hm | hm; (rcases q_oH_bk x hx with h | h; (exact hbo x h hm); (have := (hb x hm).2.2.2.2; omega)); (exact nq_bk_b49 x hx (List.mem_singleton.1 hm)))
  ·
   exact kst_next (hK.less (xx_skip (xx_skip (xx_orq (xx_or1 (xx_or1 (xx_or1 (xx_or1 xx_id)))))))) ((a44.ps fun _ h => h).less (nx_orq nq_bk_b49 (nx_or1 n_cb_b49 (nx_or1 n_zb_b49 (nx_or1 n_db_b49 (nx_or1 n_gb_b49 (old_ne g_oW_b49))))))) hl
  ·
   (try dsimp only)
   all_goals (exact hG.less (by intro k _ h; simp only [Or1, Orq, List.mem_append, List.mem_singleton] at h ⊢; grind))
  ·
   exact o38
  ·
   exact a13
  ·
   exact a20
  ·
   exact a22
  ·
   exact a55
  ·
   exact a51
  ·
   exact q_o38_bk
  ·
   (try dsimp only)
   all_goals (omega)
 refine wpIn_exit ?_
 refine then_x (then_x (inb_e ?_))
 refine tN (wQ (wQ ?_))
 have hjD : j = D := by omega
 rw [hjD] at hK hl
 refine pL ?_
 refine wI (d_move rfl) ?_
 refine wI (d_len rfl Try.underlying24 rfl) ?_
 refine wI (d_move rfl) ?_
 refine wD (tN (wB ?_))
 refine loop2 (fun (_ : Unit) => fun (z : Nat → Value) => (([(ag3 D B Q), vN, (ptr gb 0), undef, (z 4), (z 5), (ptr cb 0), (z 7), undef, (z 9), (ag3 D B Q), vT, vF, (ag3 D B Q), (ag3 D B Q), (Value.agg #[(eN D), (eN B), (eN Q), (sli db 0 (D * B * Q) (D * B * Q))]), (ag3 D B Q), (Value.agg #[(eN D), (eN B), (eN Q), (sli zb 0 (D * B * Q) (D * B * Q))]), (Value.agg #[(eN D), (eN B), (eN Q), (eN D), (eN B), (eN Q), (sli db 0 (D * B * Q) (D * B * Q)), (eN D), (eN B), (eN Q), (sli zb 0 (D * B * Q) (D * B * Q)), vN, (eN 0), vN, vF, (eN 0), (eN 0)]), (ptr cb 0), (ptr cb 0), (ptr cb 0), (ptr cb 3), (ptr cb 6), (sli db 0 (D * B * Q) (D * B * Q)), (eN (D * B * Q)), (eN (D * B * Q)), (Value.bool (decide ((D * B * Q) < (D * B * Q))))] ++ (zs z 28 10 ++ [(ptr gb 0), (eN D), (eN j), (Value.bool (decide (j < D)))] ++ (zs z 42 13 ++ [vN, (eN 0), (eN 0)] ++ (zs z 58 23 ++ [undef])))) : List Value)) (fun (_ : Unit) => fun (w_ : World) => Only (Orq bo_bk (Or1 cb (Or1 zb (Or1 db (Or1 gb No))))) w39 w_ ∧ Arr 23 gb [(eN D), (eN B), (eN Q)] w_ ∧ Arr 36 db (vd.map eV) w_ ∧ Arr 37 zb (List.replicate (D * B * Q) vN) w_ ∧ Arr 73 cb [(eN D), (eN B), (eN Q), (eN D), (eN B), (eN Q), (sli db 0 (D * B * Q) (D * B * Q)), (eN D), (eN B), (eN Q), (sli zb 0 (D * B * Q) (D * B * Q)), u_bk, (eN 0), vN, vF, (eN 0), (eN 0)] w_ ∧ Ow 75 1 bo_bk u_bk (bk).length ((bk).map (eK B)) w_) (fun (_ : Unit) => 0) () kr ?_ ?_
 ·
  refine ⟨?_, ?_, ?_, ?_, ?_, ?_⟩
  ·
   exact Only.refl _ _
  ·
   exact a13
  ·
   exact a20
  ·
   exact a22
  ·
   exact a26
  ·
   exact a37
 rintro _ z w58 ⟨o57, a13, a20, a22, a26, a37⟩
 (try dsimp only)
 replace hG := hG.step o57 (orq_mono (or1_mono (or1_mono (or1_mono (or1_mono no_any)))))
 replace hK := hK.step o57 (orq_mono (or1_mono (or1_mono (or1_mono (or1_mono no_any)))))
 replace oW := oW.tail o57 (tl_q q_oW_bk (fun _ e => by cases e) (tl_new g_oW_cb (tl_new g_oW_zb (tl_new g_oW_db (tl_new g_oW_gb tl_no)))))
 replace o28 := o28.tail o57 (tl_q q_o28_bk (fun _ e => by cases e) (tl_in in1 (tl_in (in2 in1) (tl_in (in2 (in2 in1)) (tl_in (in2 (in2 (in2 in1))) tl_no)))))
 replace o38 := o38.tail o57 (tl_q q_o38_bk (fun k e => (.inl e)) (tl_in (inq in1) (tl_in (inq (in2 in1)) (tl_in (inq (in2 (in2 in1))) (tl_in (inq (in2 (in2 (in2 in1)))) tl_no)))))
 replace oH := oH.tail o57 (tl_q q_oH_bk (fun k e => (.inl e)) (tl_in (inq in1) (tl_in (inq (in2 in1)) (tl_in (inq (in2 (in2 in1))) (tl_in (inq (in2 (in2 (in2 in1)))) tl_no)))))
 have q_o57_bk : Fr bo_bk bo_bk w39.heap.size := Fr.same
 refine wQ (pL ?_)
 refine wI (n_lss (a := 0) (b := 0) rfl rfl rfl) ?_
 refine wD (tN (wQ ?_))
 refine cond_if rfl (fun c4 => ?_) (fun c4 => ?_)
 ·
  exact absurd c4 (by decide)
 refine wpIn_exit ?_
 refine then_x (then_x (inb_e ?_))
 refine tN (wQ (pL ?_))
 refine wI (d_move rfl) ?_
 refine wI (d_assign rfl) ?_
 refine wI (d_assign rfl) ?_
 refine wD (tN ?_)
 refine wpIn_ret ?_
 refine leave0 (v := (Value.tuple #[(ptr cb 0), (eN 0)])) (res2 Try.results13 rfl rfl) ?_
 refine ⟨⟨73, 36, 37, 77, cb, db, zb, bo_bk, u_bk, bk⟩, rfl, ?_, oW⟩
 exact nd_new hD hB hQ a26 a20 a22 a37 hK (hG.less (by intro k _ h; simp only [Or1, Orq] at h ⊢; grind)) l_db hl oW (Ne.symm n_db_cb) (Ne.symm n_zb_cb) n_db_zb hn (fun x hx => by obtain ⟨h1, h2, h3, h4, h5⟩ := hb x hx; have := oH.size; exact ⟨h1, h2, h3, h4, by omega⟩) (fun x hx => ⟨nq_bk_cb x hx, nq_bk_db x hx, nq_bk_zb x hx, hbo x hx, (q_oW_bk x hx).elim (fun e => by cases e) id, a37.lts x hx⟩) g_oW_cb g_oW_db g_oW_zb
end Go.Proofs.YtpamdlnobekihaaF
namespace Go.Proofs.YtpamdlnobekihaaF
open Go Shelf YtpamdlnobekihaaS Go.RowKit
def IsRow (k : IntKind) (w : World) (a : Option Addr) (len cap : Nat) (zs : List Int) : Prop :=
 (a = none ∧ len = 0 ∧ cap = 0 ∧ zs = []) ∨
 ∃ x, a = some x ∧ len ≤ cap ∧ zs.length = cap ∧ (∀ i, i < zs.length → w.cell? (x.add i) = some (.int k (zs.getD i 0))) ∧ ∀ n ∈ zs, (Lit.int k n).wf = true
theorem IsRow.seq {α : Type} {enc : α → Value} {dec : Int → α} {k : IntKind} {W : World} {a : Option Addr} {len cap : Nat} {zs : List Int} (h : IsRow k W a len cap zs)
  (hed : ∀ n, (Lit.int k n).wf = true → enc (dec n) = .int k n) : ∃ xs : List α, xs.length = len ∧ Ps No (Seq (kS enc) xs (.slice a len cap)) W := by
 rcases h with ⟨rfl, rfl, rfl, _⟩ | ⟨x, rfl, hl, hz, hc, hw⟩
 ·exact ⟨[], rfl, seq_nil⟩
 ·refine ⟨(zs.take len).map dec, by rw [List.length_map, List.length_take]; omega, fun W' hW => ⟨_, cap, by rw [List.length_map, List.length_take, Nat.min_eq_left (by omega)], by rw [List.length_map, List.length_take]; omega, fun i v hv => ⟨x, rfl, ?_⟩⟩⟩
  rw [List.getElem?_map, List.getElem?_take] at hv
  split at hv
  ·rename_i hi
   have hiz : i < zs.length := by omega
   rw [List.getElem?_eq_getElem hiz] at hv
   injection hv with hv
   subst hv
   have h1 := hc i hiz
   have h2 : zs.getD i 0 = zs[i] := by rw [List.getD_eq_getElem?_getD, List.getElem?_eq_getElem hiz]; rfl
   rw [h2] at h1
   show W'.cell? (x.add (i * 1)) = some (enc (dec zs[i]))
   rw [Nat.mul_one, hed _ (hw _ (List.getElem_mem hiz))]
   have hlt : (x.add i).block < W.heap.size := cells_of_cell h1 |>.elim fun _ hx => (Array.getElem?_eq_some_iff.1 hx.1).1
   rw [World.cell?_of_block (w := W) (hW _ hlt id)]
   exact h1
  ·cases hv
theorem dec_u8 (n : Int) (h : (Lit.int .u8 n).wf = true) : eB (UInt8.ofNat n.toNat) = .int .u8 n := by
 have hb : 0 ≤ n ∧ n < 256 := by
  simp [Lit.wf, IntKind.min, IntKind.max, IntKind.signed, IntKind.bits] at h
  omega
 show Value.int _ _ = _
 congr 1
 rw [UInt8.toNat_ofNat']
 omega
theorem dec_i64 (n : Int) (_ : (Lit.int .i64 n).wf = true) : eI n = .int .i64 n := rfl
theorem law_of {P : Program} {f : Nat} {args : Array Value} {W : World} (h : CW P f args W (Rt (RIs (.bool true) W))) : Calls P f args W fun e W' => e = .returned (.bool true) ∧ Below W.heap.size W W' :=
 callsIn_wide.1 (CallsIn.mono h fun e W' ⟨u, he, hu⟩ => by
  obtain ⟨h1, h2⟩ := hu
  exact ⟨by rw [he, h1], h2.below (Nat.le_refl _) fun _ x => x.elim⟩)
theorem row_sized {H : Type} {enc : TypeId × Value → H} {P : Program} {W : World} {base : Nat} {spare : Nat → Bool} {held : Bool} {t e : TypeId} {k : IntKind} {a : Option Addr} {len cap B : Nat} {d : DataW H} {ps : List MemPlace} {ts : List TypeId} {ds : List (DataW H)} (j : Nat)
  (hsz : (DataW.weightsEach P ts ds).all (· ≤ reachBytes) = true) (ht : ts[j]? = some t) (hd : ds[j]? = some d) (hu : P.underlying t = some (.slice e)) (he : P.underlying e = some (.int k)) (hc : P.cellsOf e = 1) (hB : P.bytesOf e = B)
  (h : DataW.Trod enc P W base spare held t (.slice a len cap) d ps) : len * B ≤ 140737488351232 := by
 obtain ⟨fuel, hf⟩ := h
 rcases ChangeShapes.open_ints hu he hc hf with ⟨hcs, _⟩ | ⟨x, l, c, zs, hcs, _, hl, _, hz, hx, _, _⟩
 ·simp [Value.cells] at hcs
  rw [hcs.2.1, Nat.zero_mul]
  exact Nat.zero_le _
 ·simp [Value.cells] at hcs
  have h1 := (Prod.mk.inj hx).1
  rw [h1] at hd
  have hw := sized_slice hsz ht hd hu
  rw [hB] at hw
  refine Nat.le_trans (Nat.mul_le_mul_right _ ?_) hw
  simp only [ChangeShapes.lits, List.length_map, List.length_take, List.length_drop]
  rw [hcs.2.1]
  split at hz <;> omega
end Go.Proofs.YtpamdlnobekihaaF
namespace Go.Proofs.YtpamdlnobekihaaF
open Go Shelf YtpamdlnobekihaaS Ram
theorem IsRow.seqI {W : World} {a : Option Addr} {len cap : Nat} {zs : List Int} (h : IsRow .i64 W a len cap zs) : ∃ xs : List Int, xs.length = len ∧ Ps No (Seq kI xs (.slice a len cap)) W ∧ ∀ x ∈ xs, -9223372036854775808 ≤ x ∧ x < 9223372036854775808 := by
 rcases h with ⟨rfl, rfl, rfl, _⟩ | ⟨x, rfl, hl, hz, hc, hw⟩
 ·exact ⟨[], rfl, seq_nil, fun _ h => by cases h⟩
 ·refine ⟨(zs.take len).map id, by rw [List.length_map, List.length_take]; omega, fun W' hW => ⟨_, cap, by rw [List.length_map, List.length_take, Nat.min_eq_left (by omega)], by rw [List.length_map, List.length_take]; omega, fun i v hv => ⟨x, rfl, ?_⟩⟩, fun v hv => ?_⟩
  ·rw [List.getElem?_map, List.getElem?_take] at hv
   split at hv
   ·rename_i hi
    have hiz : i < zs.length := by omega
    rw [List.getElem?_eq_getElem hiz] at hv
    injection hv with hv
    subst hv
    have h1 := hc i hiz
    have h2 : zs.getD i 0 = zs[i] := by rw [List.getD_eq_getElem?_getD, List.getElem?_eq_getElem hiz]; rfl
    rw [h2] at h1
    show W'.cell? (x.add (i * 1)) = some (eI zs[i])
    rw [Nat.mul_one]
    have hlt : (x.add i).block < W.heap.size := cells_of_cell h1 |>.elim fun _ hx => (Array.getElem?_eq_some_iff.1 hx.1).1
    rw [World.cell?_of_block (w := W) (hW _ hlt id)]
    exact h1
   ·cases hv
  ·rw [List.map_id] at hv
   have h := hw v (List.mem_of_mem_take hv)
   simp [Lit.wf, IntKind.min, IntKind.max, IntKind.signed, IntKind.bits] at h
   omega
theorem range_at {l : List Int} (h : ∀ x ∈ l, -9223372036854775808 ≤ x ∧ x < 9223372036854775808) (i : Nat) (hi : i < l.length) : -9223372036854775808 ≤ l.getD i 0 ∧ l.getD i 0 < 9223372036854775808 := by
 rw [List.getD_eq_getElem?_getD, List.getElem?_eq_getElem hi]
 exact h _ (List.getElem_mem hi)
def bytesL (l : List UInt8) (n : Nat) : List UInt8 := tab n fun i => l.getD (i % l.length) 0
def bytesTo (l : List UInt8) (n i : Nat) : List UInt8 := tab n fun j => if j < i then l.getD (j % l.length) 0 else 0
theorem bytesL_len (l : List UInt8) (n : Nat) : (bytesL l n).length = n := tab_length
theorem bytesTo_zero (l : List UInt8) (n : Nat) : bytesTo l n 0 = List.replicate n 0 := by
 rw [tab_rep]
 exact tab_ext fun i _ => if_neg (Nat.not_lt_zero i)
theorem bytesTo_next (l : List UInt8) (n i : Nat) : (bytesTo l n i).set i (l.getD (i % l.length) 0) = bytesTo l n (i + 1) := by
 unfold bytesTo
 rw [tab_set]
 refine tab_ext fun j _ => ?_
 by_cases h : j = i
 ·subst h; rw [if_pos rfl, if_pos (by omega)]
 ·rw [if_neg h]
  by_cases h2 : j < i
  ·rw [if_pos h2, if_pos (by omega)]
  ·rw [if_neg h2, if_neg (by omega)]
theorem bytesTo_end (l : List UInt8) (n i : Nat) (h : n ≤ i ∨ ¬ 0 < l.length) : bytesTo l n i = bytesL l n := by
 unfold bytesTo bytesL
 refine tab_ext fun j hj => ?_
 rcases h with h | h
 ·exact if_pos (by omega)
 ·have : l = [] := List.eq_nil_of_length_eq_zero (by omega)
  subst this
  split <;> rfl
theorem flipI_nil {w : List UInt8} : flipI w [] = w := rfl
def kn0 : NS := NS.new 6 8 4 fun _ _ => false
def kn1 : NS := kn0.prog 0 0 1 (List.replicate 60 0)
def kn2 : NS := kn1.ask (kn1.readOk 0 0 0)
theorem kn_c0 : Ctl kn0 6 8 4 0 [] false 0 0 := ctl_new 6 8 4 _
theorem kn_b0 : Bv kn0 0 0 0 0 false (fun _ => onesW) (fun _ => []) := bv_new (by decide) (by decide)
theorem kn_no : kn0.progOk 0 0 1 (List.replicate 60 0) = false := by
 have := bv_progOk kn_b0 1 (List.replicate 60 0)
 exact this.trans (by decide)
theorem kn_prog : kn0.progR ((0 : Nat) : Int) ((0 : Nat) : Int) ((1 : Nat) : Int) (List.replicate 60 0) = 1 := (prog_refused kn_c0 kn_no).1
theorem kn_c1 : Ctl kn1 6 8 4 0 [] false 0 1 := (prog_refused kn_c0 kn_no).2.1
theorem kn_b1 : Bv kn1 0 0 0 0 false (fun _ => onesW) (fun _ => []) := (prog_refused kn_c0 kn_no).2.2 kn_b0
theorem kn_read : (kn0.prog ((0 : Nat) : Int) ((0 : Nat) : Int) ((1 : Nat) : Int) (List.replicate 60 0)).askR ((kn0.prog ((0 : Nat) : Int) ((0 : Nat) : Int) ((1 : Nat) : Int) (List.replicate 60 0)).readOk ((0 : Nat) : Int) ((0 : Nat) : Int) ((0 : Nat) : Int)) = 0 := (readL_eq kn_c1 kn_b1 (p := 0) (by decide)).2
theorem kn_l : (kn0.prog ((0 : Nat) : Int) ((0 : Nat) : Int) ((1 : Nat) : Int) (List.replicate 60 0)).readL ((0 : Nat) : Int) ((0 : Nat) : Int) ((0 : Nat) : Int) = onesW := ((readL_eq kn_c1 kn_b1 (p := 0) (by decide)).1).trans flipI_nil
theorem kn_len : ((kn0.prog ((0 : Nat) : Int) ((0 : Nat) : Int) ((1 : Nat) : Int) (List.replicate 60 0)).readL ((0 : Nat) : Int) ((0 : Nat) : Int) ((0 : Nat) : Int)).length = 60 := by rw [kn_l]; exact onesW_len
theorem kn_pos : 0 < ((kn0.prog ((0 : Nat) : Int) ((0 : Nat) : Int) ((1 : Nat) : Int) (List.replicate 60 0)).readL ((0 : Nat) : Int) ((0 : Nat) : Int) ((0 : Nat) : Int)).length := by rw [kn_len]; decide
theorem kn_at : (((kn0.prog ((0 : Nat) : Int) ((0 : Nat) : Int) ((1 : Nat) : Int) (List.replicate 60 0)).readL ((0 : Nat) : Int) ((0 : Nat) : Int) ((0 : Nat) : Int)).getD 0 0 : UInt8) = (255 : UInt8) := by rw [kn_l]; rfl
theorem kn_wrong : (kn2.wrong : Int) = 1 := (read_ctl kn_c1 kn_b1 (p := 0) (by decide)).wr
def OrdI (s : NS) (nx wr : Nat) (B : List UInt8) : Prop := ∃ o er, Ctl s 6 8 8 0 [] false o (wr : Int) ∧ Bv s 1 2 nx er false (fun q => if q < nx then B else onesW) (fun _ => []) ∧ Bv s 1 3 0 0 false (fun _ => onesW) (fun _ => [])
def TornI (s : NS) (i kk : Nat) (B lm : List UInt8) : Prop := ∃ o er, Ctl s 6 8 8 (kk - i) lm (decide (i = kk)) o 0 ∧ Bv s 0 0 i er false (fun q => if q < i then (if q + 1 = kk then mixR onesW B lm else B) else onesW) (fun _ => [])
def TornE (s : NS) (kk : Nat) (B lm : List UInt8) : Prop := ∃ o er, Ctl s 6 8 8 0 [] false o 0 ∧ Bv s 0 0 kk er false (fun q => if q < kk then (if q + 1 = kk then mixR onesW B lm else B) else onesW) (fun _ => [])
def ErsI (s : NS) (i : Nat) (B : List UInt8) : Prop := ∃ o, Ctl s 6 8 5 0 [] false o 0 ∧ Bv s 2 3 i 0 false (fun q => if q < i then B else onesW) (fun _ => [])
def ErsE (s : NS) (n : Nat) (B lm : List UInt8) : Prop := ∃ o, Ctl s 6 8 5 0 [] false o 0 ∧ Bv s 2 3 n 1 false (fun q => if q < n then mixR B onesW lm else onesW) (fun _ => [])
def NoiI (s : NS) (i pg : Nat) (l : List Int) (B : List UInt8) : Prop := ∃ o, Ctl s 6 8 4 0 [] false o 0 ∧ Bv s 1 1 i 0 false (fun q => if q < i then B else onesW) (fun q => if q = pg then l else [])
def StpI (s : NS) (k d nx ops : Nat) : Prop := ∃ wr er f z f' z', Ctl s 6 8 8 (k - d) [] (decide (d = k)) (ops : Int) wr ∧ Bv s 0 0 nx 0 false f z ∧ Bv s 3 3 0 er false f' z'
structure BadI (s : NS) (D B Q d b w : Nat) : Prop where
 c : Ctl s D B Q 0 [] false 0 (w : Int)
 v : ∀ d' b', d' < D → b' < B → Bv s d' b' 0 0 (decide (d' = d ∧ b' = b)) (fun _ => onesW) (fun _ => [])
end Go.Proofs.YtpamdlnobekihaaF
set_option maxRecDepth 20000
set_option maxHeartbeats 4000000
namespace Go.Proofs.YtpamdlnobekihaaF
open Go Shelf YtpamdlnobekihaaS Ram
theorem law7Within_ok (a : Int) (m : Nat) (W : World) (hm : 0 < m) (hm2 : m ≤ 1000000) :
    CW Try.prog 12 #[(eI a), (eN m)] W (Rt (RIs (eN (a % (m : Int)).toNat) W)) := by
 have oW : Only No W W := Only.refl _ _
 refine enter (al := [(eI a), (eN m)]) (k := 13) (l := ([(eI a), (eN m)] ++ (us 13))) Try.func12 rfl Try.ntmps12 rfl rfl ?_
 refine wQ (pL ?_)
 refine wI (d_assign rfl) ?_
 refine wD (tN (wQ (pL ?_)))
 refine wI (d_move rfl) ?_
 refine wI (d_move rfl) ?_
 refine wI (d_rem (k := .i64) (m := a) (n := (m : Int)) rfl rfl oo (r := Int.tmod a (m : Int)) rfl) ?_
 refine wI (d_assign rfl) ?_
 refine wD (tN (wQ (wQ (pL ?_))))
 refine wI (d_move rfl) ?_
 refine wI (d_lss (k := .i64) (m := Int.tmod a (m : Int)) (n := 0) rfl rfl rfl) ?_
 refine wD (tN ?_)
 refine cond_if rfl (fun k1 => ?_) (fun k1 => ?_)
 ·
  refine pL ?_
  refine wI (d_move rfl) ?_
  refine wI (d_move rfl) ?_
  refine wF [(eI a), (eN m), undef, undef, (eN 0), (eI (Int.tmod a (m : Int))), (eI a), (eN m), (eI (Int.tmod a (m : Int))), (eI (Int.tmod a (m : Int))), (Value.bool (decide (Int.tmod a (m : Int) < 0))), (eI (Int.tmod a (m : Int))), (eN m), undef, undef] ?_
  refine wI (d_add (k := .i64) (m := Int.tmod a (m : Int)) (n := (m : Int)) rfl rfl (r := (((a % (m : Int)).toNat : Nat) : Int)) (tmm_neg hm hm2 k1)) ?_
  refine wI (d_assign rfl) ?_
  refine wD (tN (wQ (pL ?_)))
  refine wI (d_move rfl) ?_
  refine wI (d_assign rfl) ?_
  refine wD (tN ?_)
  refine wpIn_ret ?_
  refine leave0 (v := (eN ((a % (m : Int)).toNat))) (res1 Try.results12 rfl) ?_
  exact ⟨rfl, oW⟩
 refine wp_eq (l' := [(eI a), (eN m), undef, undef, (eN 0), (eI (Int.tmod a (m : Int))), (eI a), (eN m), (eI (Int.tmod a (m : Int))), (eI (Int.tmod a (m : Int))), (Value.bool (decide (Int.tmod a (m : Int) < 0))), undef, undef, undef, undef]) rfl ?_
 refine wp_eq (l' := [(eI a), (eN m), undef, undef, (eN 0), (eN ((a % (m : Int)).toNat)), (eI a), (eN m), (eN ((a % (m : Int)).toNat)), (eN ((a % (m : Int)).toNat)), (Value.bool (decide (Int.tmod a (m : Int) < 0))), undef, undef, undef, undef]) (Eq.trans (Eq.trans (show ([(eI a), (eN m), undef, undef, (eN 0), (eI (Int.tmod a (m : Int))), (eI a), (eN m), (eI (Int.tmod a (m : Int))), (eI (Int.tmod a (m : Int))), (Value.bool (decide (Int.tmod a (m : Int) < 0))), undef, undef, undef, undef] : List Value) = [(eI a), (eN m), undef, undef, (eN 0), (eN ((a % (m : Int)).toNat)), (eI a), (eN m), (eI (Int.tmod a (m : Int))), (eI (Int.tmod a (m : Int))), (Value.bool (decide (Int.tmod a (m : Int) < 0))), undef, undef, undef, undef] from reslot [(eI a), (eN m), undef, undef, (eN 0), (eI (Int.tmod a (m : Int))), (eI a), (eN m), (eI (Int.tmod a (m : Int))), (eI (Int.tmod a (m : Int))), (Value.bool (decide (Int.tmod a (m : Int) < 0))), undef, undef, undef, undef] 5 (tmm_pos hm k1)) (show ([(eI a), (eN m), undef, undef, (eN 0), (eN ((a % (m : Int)).toNat)), (eI a), (eN m), (eI (Int.tmod a (m : Int))), (eI (Int.tmod a (m : Int))), (Value.bool (decide (Int.tmod a (m : Int) < 0))), undef, undef, undef, undef] : List Value) = [(eI a), (eN m), undef, undef, (eN 0), (eN ((a % (m : Int)).toNat)), (eI a), (eN m), (eN ((a % (m : Int)).toNat)), (eI (Int.tmod a (m : Int))), (Value.bool (decide (Int.tmod a (m : Int) < 0))), undef, undef, undef, undef] from reslot [(eI a), (eN m), undef, undef, (eN 0), (eN ((a % (m : Int)).toNat)), (eI a), (eN m), (eI (Int.tmod a (m : Int))), (eI (Int.tmod a (m : Int))), (Value.bool (decide (Int.tmod a (m : Int) < 0))), undef, undef, undef, undef] 8 (tmm_pos hm k1))) (show ([(eI a), (eN m), undef, undef, (eN 0), (eN ((a % (m : Int)).toNat)), (eI a), (eN m), (eN ((a % (m : Int)).toNat)), (eI (Int.tmod a (m : Int))), (Value.bool (decide (Int.tmod a (m : Int) < 0))), undef, undef, undef, undef] : List Value) = [(eI a), (eN m), undef, undef, (eN 0), (eN ((a % (m : Int)).toNat)), (eI a), (eN m), (eN ((a % (m : Int)).toNat)), (eN ((a % (m : Int)).toNat)), (Value.bool (decide (Int.tmod a (m : Int) < 0))), undef, undef, undef, undef] from reslot [(eI a), (eN m), undef, undef, (eN 0), (eN ((a % (m : Int)).toNat)), (eI a), (eN m), (eN ((a % (m : Int)).toNat)), (eI (Int.tmod a (m : Int))), (Value.bool (decide (Int.tmod a (m : Int) < 0))), undef, undef, undef, undef] 9 (tmm_pos hm k1))) ?_
 refine wK (tN (wQ (pL ?_)))
 refine wI (d_move rfl) ?_
 refine wI (d_assign rfl) ?_
 refine wD (tN ?_)
 refine wpIn_ret ?_
 refine leave0 (v := (eN ((a % (m : Int)).toNat))) (res1 Try.results12 rfl) ?_
 exact ⟨rfl, oW⟩
theorem law7Bytes_ok (la : List UInt8) (n : Nat) (u1 : Value) (W : World) (h1 : Ps No (Seq kB la u1) W) (g1 : la.length ≤ 140737488351232) (gn : n ≤ 1000) :
    CW Try.prog 16 #[u1, (eN n)] W (Rt (ROw 5 eB (bytesL la n) W)) := by
 have oW : Only No W W := Only.refl _ _
 refine enter (al := [u1, (eN n)]) (k := 28) (l := ([u1, (eN n)] ++ (us 28))) Try.func16 rfl Try.ntmps16 rfl rfl ?_
 refine wQ (pL ?_)
 refine wI (d_assign rfl) ?_
 refine wD (tN (wQ (pL ?_)))
 refine wI (d_move rfl) ?_
 refine wO (d_make1 (n := n) Try.underlying36 s_ti5 rfl rfl oo oo rfl) ?_
 rintro _ w11 ⟨o, rfl, g12, a13, o14⟩
 replace a13 : Arr 5 o ((List.replicate n 0).map eB) w11 := by rw [List.map_replicate]; exact a13
 have l_o : (List.replicate n 0 : List UInt8).length = n := by simp
 have g_oW_o : W.heap.size ≤ o := Nat.le_trans oW.size g12
 replace h1 := h1.new o14 g12
 replace oW := oW.tail0 o14
 refine wI (d_assign rfl) ?_
 refine wD (tN (wQ (wQ (pL ?_))))
 refine wI (d_assign rfl) ?_
 refine wD (tN (wB ?_))
 refine loop2 (fun (i : (Nat)) => fun (z : Nat → Value) => (([u1, (eN n), undef, undef, vN, (sli o 0 n n), (eN i), (eN n), (sli o 0 n n)] ++ (zs z 9 20 ++ [undef])) : List Value)) (fun (i : (Nat)) => fun (w_ : World) => (i ≤ n) ∧ Only (Or1 o No) w11 w_ ∧ (bytesTo la n i).length = n ∧ Arr 5 o ((bytesTo la n i).map eB) w_) (fun (i : (Nat)) => n - i) 0 kr ?_ ?_
 ·
  refine ⟨?_, ?_, ?_, ?_⟩
  ·
   exact Nat.zero_le _
  ·
   exact Only.refl _ _
  ·
   exact tab_length
  ·
   (try dsimp only)
   all_goals (rw [bytesTo_zero]; exact a13)
 rintro i z w16 ⟨hi, o15, l_o, a13⟩
 (try dsimp only)
 replace h1 := h1.step o15 (or1_mono no_any)
 replace oW := oW.tail o15 (tl_new g_oW_o tl_no)
 refine wQ (wQ ?_)
 by_cases k0 : i < n
 ·
  refine pL ?_
  refine wI (d_move rfl) ?_
  refine wI (d_move rfl) ?_
  refine wI (n_lss (a := i) (b := n) rfl rfl (decide_eq_true k0)) ?_
  refine wI (d_move rfl) ?_
  refine wG (d_move rfl) ?_
  refine wG (d_lenS rfl Try.underlying36 rfl h1) ?_
  refine wG (n_gtr (a := la.length) (b := 0) rfl rfl rfl) ?_
  refine wF ([u1, (eN n), undef, undef, vN, (sli o 0 n n), (eN i), (eN n), (sli o 0 n n), (eN i), (eN n), vT, vT, u1, (eN la.length), (Value.bool (decide (0 < la.length)))] ++ (zs z 16 13 ++ [undef])) ?_
  refine wI (d_pick (b := true) (v := (Value.bool (decide (0 < la.length)))) rfl rfl) ?_
  refine wD (tN ?_)
  refine cond_if rfl (fun c0 => ?_) (fun c0 => ?_)
  ·
   refine wK (tN ?_)
   refine forget (fun zf17 => ([u1, (eN n), undef, undef, vN, (sli o 0 n n), (eN i), (eN n), (sli o 0 n n)] ++ (zs zf17 9 20 ++ [undef]))) kr (fun zf17 => ?_)
   refine wQ (wB (pL ?_))
   refine wI (d_move rfl) ?_
   refine wI (d_move rfl) ?_
   refine wI (d_move rfl) ?_
   refine wI (d_move rfl) ?_
   refine wI (d_move rfl) ?_
   refine wI (d_lenS rfl Try.underlying36 rfl h1) ?_
   refine wI (n_rem (a := i) (b := la.length) rfl rfl oo) ?_
   refine wI (d_ix (i := (i % la.length)) (xs := la) Try.underlying36 s_ti5 rfl h1 (show _ = Value.int _ ((i % la.length : Nat) : Int) from rfl) (by have := Nat.mod_lt i (show 0 < la.length by omega); omega)) ?_
   refine wI (d_ldx (i := (i % la.length)) (xs := la) (enc := eB) (v := (la.getD (i % la.length) 0)) ⟨_, Try.underlying5, rfl⟩ rfl h1 (g_at (by have := Nat.mod_lt i (show 0 < la.length by omega); omega))) ?_
   refine wF ([u1, (eN n), undef, undef, vN, (sli o 0 n n), (eN i), (eN n), (sli o 0 n n)] ++ (zs zf17 9 10 ++ [(sli o 0 n n), (eN i), u1, (eN i), u1, (eN la.length), (eN (i % la.length)), (ixp u1 (i % la.length)), (eB (la.getD (i % la.length) 0)), (zf17 28), undef])) ?_
   refine wI (d_index1 (n := n) (i := i) Try.underlying36 s_ti5 rfl (show _ = Value.int _ (i : Int) from rfl) oo) ?_
   refine wO (d_store (b := o) (i := i) (v := (eB (la.getD (i % la.length) 0))) s_ti5 rfl rfl rfl a13 (by rw [List.length_map, l_o]; omega) (m_put (bytesTo la n i) i (la.getD (i % la.length) 0) eB)) ?_
   rintro _ w18 ⟨a19, o20⟩
   replace h1 := h1.stepb o20 in1
   replace oW := oW.tailb o20 g_oW_o
   replace o15 := o15.tail o20 (fun k _ e => by have : k = o := e; rw [this]; exact in1)
   replace l_o : ((bytesTo la n i).set i (la.getD (i % la.length) 0) : List UInt8).length = n := (List.length_set ..).trans l_o
   refine wD ?_
   refine inb_n (tN ?_)
   refine forget (fun zf21 => ([u1, (eN n), undef, undef, vN, (sli o 0 n n), (eN i), (eN n), (sli o 0 n n)] ++ (zs zf21 9 20 ++ [undef]))) kr (fun zf21 => ?_)
   refine pL ?_
   refine wI (d_move rfl) ?_
   refine wI (n_add (a := i) (b := 1) rfl rfl oo) ?_
   refine wI (d_assign rfl) ?_
   refine wD (tN ?_)
   refine ⟨_, (i + 1), rfl, kr, ⟨?_, ?_, ?_, ?_⟩, ?_⟩
   ·
    (try dsimp only)
    all_goals (omega)
   ·
    exact o15
   ·
    exact tab_length
   ·
    (try dsimp only)
    all_goals (rw [← bytesTo_next la n i]; exact a19)
   ·
    (try dsimp only)
    all_goals (omega)
  refine wpIn_exit ?_
  refine then_x (then_x (inb_e ?_))
  refine tN ?_
  refine forget (fun zf22 => (zs zf22 0 5 ++ [(sli o 0 n n), (eN i)] ++ (zs zf22 7 23))) kr (fun zf22 => ?_)
  refine wQ (pL ?_)
  refine wI (d_move rfl) ?_
  refine wI (d_assign rfl) ?_
  refine wD (tN ?_)
  refine wpIn_ret ?_
  refine leave0 (v := (sli o 0 n n)) (res1 Try.results16 rfl) ?_
  exact ROw.arr a13 l_o (bytesTo_end la n i oo) g_oW_o oW
 refine pL ?_
 refine wI (d_move rfl) ?_
 refine wI (d_move rfl) ?_
 refine wI (n_lss (a := i) (b := n) rfl rfl (decide_eq_false k0)) ?_
 refine wI (d_move rfl) ?_
 refine wX ?_
 refine wX ?_
 refine wX ?_
 refine wI (d_pick (b := false) (v := vF) rfl rfl) ?_
 refine wF ([u1, (eN n), undef, undef, vN, (sli o 0 n n), (eN i), (eN n), (sli o 0 n n), (eN i), (eN n), vF, vF, undef, undef, undef, vF] ++ (zs z 17 12 ++ [undef])) ?_
 refine wD (tN ?_)
 refine cond_f rfl ?_
 refine wpIn_exit ?_
 refine then_x (then_x (inb_e ?_))
 refine tN ?_
 refine forget (fun zf23 => (zs zf23 0 5 ++ [(sli o 0 n n), (eN i)] ++ (zs zf23 7 23))) kr (fun zf23 => ?_)
 refine wQ (pL ?_)
 refine wI (d_move rfl) ?_
 refine wI (d_assign rfl) ?_
 refine wD (tN ?_)
 refine wpIn_ret ?_
 refine leave0 (v := (sli o 0 n n)) (res1 Try.results16 rfl) ?_
 exact ROw.arr a13 l_o (bytesTo_end la n i oo) g_oW_o oW
theorem law7Known_ok (W : World) :
    CW Try.prog 11 #[] W (Rt (RIs (.bool true) W)) := by
 have oW : Only No W W := Only.refl _ _
 refine enter (al := []) (k := 47) (l := (us 47)) Try.func11 rfl Try.ntmps11 rfl rfl ?_
 refine wQ (pL ?_)
 refine wI (d_assign rfl) ?_
 refine wD (tN (wQ (pL ?_)))
 refine wI (d_buildS (pl := [(0, 1), (1, 1), (2, 1)]) (zs := [(eN 0), (eN 0), (eN 0)]) (cs := [(eN 6), (eN 8), (eN 4)]) Try.underlying23 s_ti23 ⟨_, _, _, _, rfl, s_ti3, ⟨_, _, _, _, rfl, s_ti3, ⟨_, _, _, _, rfl, s_ti3, rfl⟩⟩⟩ rfl (parts_cons (vs := [(eN 6)]) (cells_of (v := (eN 6)) rfl rfl) (parts_cons (vs := [(eN 8)]) (cells_of (v := (eN 8)) rfl rfl) (parts_cons (vs := [(eN 4)]) (cells_of (v := (eN 4)) rfl rfl) parts_nil))) rfl) ?_
 refine wO (d_call (xl := [.tmp 7, .const (.slice none 0 0)]) (al := [(Value.agg #[(eN 6), (eN 8), (eN 4)]), vN]) Try.func13 kr rfl rfl rfl (new0_ok 6 8 4 _ oo oo oo)) ?_
 rintro _ w11 ⟨L13, rfl, ⟨a14, g15⟩, o12⟩
 have g_oW_L13 : ∀ k, L13.S k → W.heap.size ≤ k := fun k hk => Nat.le_trans oW.size (g15 k hk)
 replace a14 := a14.less (Y := No) no_old
 replace oW := oW.tail0 o12
 refine wI (d_move rfl) ?_
 refine wI (d_extract (v := (ptr L13.bN 0)) rfl rfl) ?_
 refine wI (d_extract (v := (eN 0)) rfl rfl) ?_
 refine wI (d_assign rfl) ?_
 refine wI (d_assign rfl) ?_
 refine wD (tN (wQ (wQ (pL ?_))))
 refine wI (d_move rfl) ?_
 refine wF ([vF, (ptr L13.bN 0), (eN 0), undef, undef, undef, (Value.tuple #[(ptr L13.bN 0), (eN 0)]), (Value.agg #[(eN 6), (eN 8), (eN 4)]), (Value.tuple #[(ptr L13.bN 0), (eN 0)]), (ptr L13.bN 0), (eN 0), (eN 0)] ++ (us 35)) ?_
 refine wI (n_neq (a := 0) (b := 0) rfl rfl (by rw [decide_eq_true rfl] <;> rfl)) ?_
 refine wI (d_move rfl) ?_
 refine wG (d_move rfl) ?_
 refine wG (d_peql (b := L13.bN) (o := 0) Try.underlying27 rfl rfl) ?_
 refine wI (d_pick (b := false) (v := vF) rfl rfl) ?_
 refine wD (tN ?_)
 refine forget (fun zf16 => ([(zf16 0), (ptr L13.bN 0)] ++ (zs zf16 2 14 ++ [vF] ++ (zs zf16 17 30)))) kr (fun zf16 => ?_)
 refine cond_f rfl ?_
 refine wK (tN (wQ (pL ?_)))
 refine wI (d_move rfl) ?_
 refine wO (d_make1 (n := 60) Try.underlying36 s_ti5 rfl rfl oo oo rfl) ?_
 rintro _ w17 ⟨o, rfl, g18, a19, o20⟩
 replace a19 : Arr 5 o ((List.replicate 60 0).map eB) w17 := by rw [List.map_replicate]; exact a19
 have l_o : (List.replicate 60 0 : List UInt8).length = 60 := by simp
 have g_oW_o : W.heap.size ≤ o := Nat.le_trans oW.size g18
 replace a14 := a14.new o20 g18
 replace oW := oW.tail0 o20
 refine wO (d_call (xl := [.tmp 17, .const (.int .i64 0), .const (.int .i64 0), .const (.int .i64 1), .tmp 18]) (al := [(ptr L13.bN 0), (eN 0), (eN 0), (eN 1), (sli o 0 60 60)]) Try.func20 kr rfl rfl rfl (prog_ok L13 (NS.new 6 8 4 (fun _ _ => false)) _ a14 ((0 : Nat) : Int) ((0 : Nat) : Int) ((1 : Nat) : Int) (List.replicate 60 0) (sli o 0 60 60) (lt_or1 a19.lt lt_no) (arr_keep a19 l_o (Nat.le_refl _) (nx_ors (a14.dis _ in1) (fun _ _ t => t.elim))) (by have := rep_len 60 0; first | omega | (simp; done) | (simp; omega)))) ?_
 rintro _ w21 ⟨rfl, a23, o22⟩
 replace a19 := a19.step o22 (a14.dis _ in1)
 replace oW := oW.tail o22 (fun k hk e => by have := g_oW_L13 k e; omega)
 replace a14 := a23
 refine wI (d_assign rfl) ?_
 refine wD (tN (wQ (pL ?_)))
 refine wI (d_move rfl) ?_
 refine wO (d_call (xl := [.tmp 21, .const (.int .i64 0), .const (.int .i64 0), .const (.int .i64 0)]) (al := [(ptr L13.bN 0), (eN 0), (eN 0), (eN 0)]) Try.func21 kr rfl rfl rfl (read_ok L13 ((NS.new 6 8 4 (fun _ _ => false)).prog ((0 : Nat) : Int) ((0 : Nat) : Int) ((1 : Nat) : Int) (List.replicate 60 0)) _ a14 ((0 : Nat) : Int) ((0 : Nat) : Int) ((0 : Nat) : Int) (lt_or1 a19.lt lt_no))) ?_
 rintro _ w24 ⟨u26, rfl, f27, a28, o25⟩
 replace f27 := f27.less (Y := (Or1 o (Ors L13.S (Old W.heap.size)))) (or1_old a19.lt (ors_old a14.lt (old_old oW.size)))
 replace a19 := a19.step o25 (a14.dis _ in1)
 replace oW := oW.tail o25 (fun k hk e => by have := g_oW_L13 k e; omega)
 replace a14 := a28
 refine wI (d_move rfl) ?_
 refine wI (d_extract (v := u26) rfl rfl) ?_
 refine wI (d_extract (v := (eN (((NS.new 6 8 4 (fun _ _ => false)).prog ((0 : Nat) : Int) ((0 : Nat) : Int) ((1 : Nat) : Int) (List.replicate 60 0)).askR (((NS.new 6 8 4 (fun _ _ => false)).prog ((0 : Nat) : Int) ((0 : Nat) : Int) ((1 : Nat) : Int) (List.replicate 60 0)).readOk ((0 : Nat) : Int) ((0 : Nat) : Int) ((0 : Nat) : Int))))) rfl rfl) ?_
 refine wF ([(zf16 0), (ptr L13.bN 0), (zf16 2), (eN ((NS.new 6 8 4 (fun _ _ => false)).progR ((0 : Nat) : Int) ((0 : Nat) : Int) ((1 : Nat) : Int) (List.replicate 60 0)))] ++ (zs zf16 4 12 ++ [vF, (ptr L13.bN 0), (sli o 0 60 60), (eN ((NS.new 6 8 4 (fun _ _ => false)).progR ((0 : Nat) : Int) ((0 : Nat) : Int) ((1 : Nat) : Int) (List.replicate 60 0))), (Value.tuple #[u26, (eN (((NS.new 6 8 4 (fun _ _ => false)).prog ((0 : Nat) : Int) ((0 : Nat) : Int) ((1 : Nat) : Int) (List.replicate 60 0)).askR (((NS.new 6 8 4 (fun _ _ => false)).prog ((0 : Nat) : Int) ((0 : Nat) : Int) ((1 : Nat) : Int) (List.replicate 60 0)).readOk ((0 : Nat) : Int) ((0 : Nat) : Int) ((0 : Nat) : Int))))]), (ptr L13.bN 0), (Value.tuple #[u26, (eN (((NS.new 6 8 4 (fun _ _ => false)).prog ((0 : Nat) : Int) ((0 : Nat) : Int) ((1 : Nat) : Int) (List.replicate 60 0)).askR (((NS.new 6 8 4 (fun _ _ => false)).prog ((0 : Nat) : Int) ((0 : Nat) : Int) ((1 : Nat) : Int) (List.replicate 60 0)).readOk ((0 : Nat) : Int) ((0 : Nat) : Int) ((0 : Nat) : Int))))]), u26, (eN (((NS.new 6 8 4 (fun _ _ => false)).prog ((0 : Nat) : Int) ((0 : Nat) : Int) ((1 : Nat) : Int) (List.replicate 60 0)).askR (((NS.new 6 8 4 (fun _ _ => false)).prog ((0 : Nat) : Int) ((0 : Nat) : Int) ((1 : Nat) : Int) (List.replicate 60 0)).readOk ((0 : Nat) : Int) ((0 : Nat) : Int) ((0 : Nat) : Int))))] ++ (zs zf16 25 22))) ?_
 refine wI (d_assign rfl) ?_
 refine wI (d_assign rfl) ?_
 refine wD (tN ?_)
 refine forget (fun zf29 => ([(zf29 0), (ptr L13.bN 0), (zf29 2), (eN ((NS.new 6 8 4 (fun _ _ => false)).progR ((0 : Nat) : Int) ((0 : Nat) : Int) ((1 : Nat) : Int) (List.replicate 60 0))), u26, (eN (((NS.new 6 8 4 (fun _ _ => false)).prog ((0 : Nat) : Int) ((0 : Nat) : Int) ((1 : Nat) : Int) (List.replicate 60 0)).askR (((NS.new 6 8 4 (fun _ _ => false)).prog ((0 : Nat) : Int) ((0 : Nat) : Int) ((1 : Nat) : Int) (List.replicate 60 0)).readOk ((0 : Nat) : Int) ((0 : Nat) : Int) ((0 : Nat) : Int))))] ++ (zs zf29 6 41))) kr (fun zf29 => ?_)
 refine wQ (pL ?_)
 refine wI (d_move rfl) ?_
 refine wI (n_eql (a := ((NS.new 6 8 4 (fun _ _ => false)).progR ((0 : Nat) : Int) ((0 : Nat) : Int) ((1 : Nat) : Int) (List.replicate 60 0))) (b := 1) rfl rfl (decide_eq_true kn_prog)) ?_
 refine wI (d_move rfl) ?_
 refine wG (d_move rfl) ?_
 refine wG (n_eql (a := (((NS.new 6 8 4 (fun _ _ => false)).prog ((0 : Nat) : Int) ((0 : Nat) : Int) ((1 : Nat) : Int) (List.replicate 60 0)).askR (((NS.new 6 8 4 (fun _ _ => false)).prog ((0 : Nat) : Int) ((0 : Nat) : Int) ((1 : Nat) : Int) (List.replicate 60 0)).readOk ((0 : Nat) : Int) ((0 : Nat) : Int) ((0 : Nat) : Int)))) (b := 0) rfl rfl (decide_eq_true kn_read)) ?_
 refine wI (d_pick (b := true) (v := vT) rfl rfl) ?_
 refine wI (d_move rfl) ?_
 refine wF ([(zf29 0), (ptr L13.bN 0), (zf29 2), (eN ((NS.new 6 8 4 (fun _ _ => false)).progR ((0 : Nat) : Int) ((0 : Nat) : Int) ((1 : Nat) : Int) (List.replicate 60 0))), u26, (eN (((NS.new 6 8 4 (fun _ _ => false)).prog ((0 : Nat) : Int) ((0 : Nat) : Int) ((1 : Nat) : Int) (List.replicate 60 0)).askR (((NS.new 6 8 4 (fun _ _ => false)).prog ((0 : Nat) : Int) ((0 : Nat) : Int) ((1 : Nat) : Int) (List.replicate 60 0)).readOk ((0 : Nat) : Int) ((0 : Nat) : Int) ((0 : Nat) : Int))))] ++ (zs zf29 6 19 ++ [(eN ((NS.new 6 8 4 (fun _ _ => false)).progR ((0 : Nat) : Int) ((0 : Nat) : Int) ((1 : Nat) : Int) (List.replicate 60 0))), vT, vT, (eN (((NS.new 6 8 4 (fun _ _ => false)).prog ((0 : Nat) : Int) ((0 : Nat) : Int) ((1 : Nat) : Int) (List.replicate 60 0)).askR (((NS.new 6 8 4 (fun _ _ => false)).prog ((0 : Nat) : Int) ((0 : Nat) : Int) ((1 : Nat) : Int) (List.replicate 60 0)).readOk ((0 : Nat) : Int) ((0 : Nat) : Int) ((0 : Nat) : Int)))), vT, vT, vT] ++ (zs zf29 32 15))) ?_
 refine wG (d_move rfl) ?_
 refine wG (d_lenS rfl Try.underlying36 rfl f27) ?_
 refine wG (n_eql (a := ((((NS.new 6 8 4 (fun _ _ => false)).prog ((0 : Nat) : Int) ((0 : Nat) : Int) ((1 : Nat) : Int) (List.replicate 60 0)).readL ((0 : Nat) : Int) ((0 : Nat) : Int) ((0 : Nat) : Int)).length)) (b := 60) rfl rfl (decide_eq_true kn_len)) ?_
 refine wI (d_pick (b := true) (v := vT) rfl rfl) ?_
 refine wI (d_move rfl) ?_
 refine wG (d_move rfl) ?_
 refine wG (d_ix (i := 0) (xs := (((NS.new 6 8 4 (fun _ _ => false)).prog ((0 : Nat) : Int) ((0 : Nat) : Int) ((1 : Nat) : Int) (List.replicate 60 0)).readL ((0 : Nat) : Int) ((0 : Nat) : Int) ((0 : Nat) : Int))) Try.underlying36 s_ti5 rfl f27 (show _ = Value.int _ ((0 : Nat) : Int) from rfl) kn_pos) ?_
 refine wF ([(zf29 0), (ptr L13.bN 0), (zf29 2), (eN ((NS.new 6 8 4 (fun _ _ => false)).progR ((0 : Nat) : Int) ((0 : Nat) : Int) ((1 : Nat) : Int) (List.replicate 60 0))), u26, (eN (((NS.new 6 8 4 (fun _ _ => false)).prog ((0 : Nat) : Int) ((0 : Nat) : Int) ((1 : Nat) : Int) (List.replicate 60 0)).askR (((NS.new 6 8 4 (fun _ _ => false)).prog ((0 : Nat) : Int) ((0 : Nat) : Int) ((1 : Nat) : Int) (List.replicate 60 0)).readOk ((0 : Nat) : Int) ((0 : Nat) : Int) ((0 : Nat) : Int))))] ++ (zs zf29 6 19 ++ [(eN ((NS.new 6 8 4 (fun _ _ => false)).progR ((0 : Nat) : Int) ((0 : Nat) : Int) ((1 : Nat) : Int) (List.replicate 60 0))), vT, vT, (eN (((NS.new 6 8 4 (fun _ _ => false)).prog ((0 : Nat) : Int) ((0 : Nat) : Int) ((1 : Nat) : Int) (List.replicate 60 0)).askR (((NS.new 6 8 4 (fun _ _ => false)).prog ((0 : Nat) : Int) ((0 : Nat) : Int) ((1 : Nat) : Int) (List.replicate 60 0)).readOk ((0 : Nat) : Int) ((0 : Nat) : Int) ((0 : Nat) : Int)))), vT, vT, vT, u26, (eN ((((NS.new 6 8 4 (fun _ _ => false)).prog ((0 : Nat) : Int) ((0 : Nat) : Int) ((1 : Nat) : Int) (List.replicate 60 0)).readL ((0 : Nat) : Int) ((0 : Nat) : Int) ((0 : Nat) : Int)).length)), vT, vT, vT, u26, (ixp u26 0)] ++ (zs zf29 39 8))) ?_
 refine wG (d_ldx (i := 0) (xs := (((NS.new 6 8 4 (fun _ _ => false)).prog ((0 : Nat) : Int) ((0 : Nat) : Int) ((1 : Nat) : Int) (List.replicate 60 0)).readL ((0 : Nat) : Int) ((0 : Nat) : Int) ((0 : Nat) : Int))) (enc := eB) (v := ((((NS.new 6 8 4 (fun _ _ => false)).prog ((0 : Nat) : Int) ((0 : Nat) : Int) ((1 : Nat) : Int) (List.replicate 60 0)).readL ((0 : Nat) : Int) ((0 : Nat) : Int) ((0 : Nat) : Int)).getD 0 0)) ⟨_, Try.underlying5, rfl⟩ rfl f27 (g_at kn_pos)) ?_
 refine wG (b_eql (c := ((((NS.new 6 8 4 (fun _ _ => false)).prog ((0 : Nat) : Int) ((0 : Nat) : Int) ((1 : Nat) : Int) (List.replicate 60 0)).readL ((0 : Nat) : Int) ((0 : Nat) : Int) ((0 : Nat) : Int)).getD 0 0)) (e := 255) rfl rfl (decide_eq_true kn_at)) ?_
 refine wI (d_pick (b := true) (v := vT) rfl rfl) ?_
 refine wI (d_move rfl) ?_
 refine wG (d_move rfl) ?_
 refine wpL.on rfl rfl rfl (nb rfl) rfl (d_call (xl := [.tmp 43]) (al := [(ptr L13.bN 0)]) Try.func18 kr rfl rfl rfl (nandWrong_ok L13 (((NS.new 6 8 4 (fun _ _ => false)).prog ((0 : Nat) : Int) ((0 : Nat) : Int) ((1 : Nat) : Int) (List.replicate 60 0)).ask (((NS.new 6 8 4 (fun _ _ => false)).prog ((0 : Nat) : Int) ((0 : Nat) : Int) ((1 : Nat) : Int) (List.replicate 60 0)).readOk ((0 : Nat) : Int) ((0 : Nat) : Int) ((0 : Nat) : Int))) _ a14)) ?_
 rintro _ w30 ⟨rfl, o31⟩
 replace a14 := a14.step0 o31
 replace f27 := f27.step0 o31
 replace a19 := a19.step0 o31
 replace oW := oW.tail0 o31
 refine wG (d_eql (k := .i64) (m := (((NS.new 6 8 4 (fun _ _ => false)).prog ((0 : Nat) : Int) ((0 : Nat) : Int) ((1 : Nat) : Int) (List.replicate 60 0)).ask (((NS.new 6 8 4 (fun _ _ => false)).prog ((0 : Nat) : Int) ((0 : Nat) : Int) ((1 : Nat) : Int) (List.replicate 60 0)).readOk ((0 : Nat) : Int) ((0 : Nat) : Int) ((0 : Nat) : Int))).wrong) (n := 1) rfl rfl (decide_eq_true kn_wrong)) ?_
 refine wF ([(zf29 0), (ptr L13.bN 0), (zf29 2), (eN ((NS.new 6 8 4 (fun _ _ => false)).progR ((0 : Nat) : Int) ((0 : Nat) : Int) ((1 : Nat) : Int) (List.replicate 60 0))), u26, (eN (((NS.new 6 8 4 (fun _ _ => false)).prog ((0 : Nat) : Int) ((0 : Nat) : Int) ((1 : Nat) : Int) (List.replicate 60 0)).askR (((NS.new 6 8 4 (fun _ _ => false)).prog ((0 : Nat) : Int) ((0 : Nat) : Int) ((1 : Nat) : Int) (List.replicate 60 0)).readOk ((0 : Nat) : Int) ((0 : Nat) : Int) ((0 : Nat) : Int))))] ++ (zs zf29 6 19 ++ [(eN ((NS.new 6 8 4 (fun _ _ => false)).progR ((0 : Nat) : Int) ((0 : Nat) : Int) ((1 : Nat) : Int) (List.replicate 60 0))), vT, vT, (eN (((NS.new 6 8 4 (fun _ _ => false)).prog ((0 : Nat) : Int) ((0 : Nat) : Int) ((1 : Nat) : Int) (List.replicate 60 0)).askR (((NS.new 6 8 4 (fun _ _ => false)).prog ((0 : Nat) : Int) ((0 : Nat) : Int) ((1 : Nat) : Int) (List.replicate 60 0)).readOk ((0 : Nat) : Int) ((0 : Nat) : Int) ((0 : Nat) : Int)))), vT, vT, vT, u26, (eN ((((NS.new 6 8 4 (fun _ _ => false)).prog ((0 : Nat) : Int) ((0 : Nat) : Int) ((1 : Nat) : Int) (List.replicate 60 0)).readL ((0 : Nat) : Int) ((0 : Nat) : Int) ((0 : Nat) : Int)).length)), vT, vT, vT, u26, (ixp u26 0), (eB ((((NS.new 6 8 4 (fun _ _ => false)).prog ((0 : Nat) : Int) ((0 : Nat) : Int) ((1 : Nat) : Int) (List.replicate 60 0)).readL ((0 : Nat) : Int) ((0 : Nat) : Int) ((0 : Nat) : Int)).getD 0 0)), vT, vT, vT, (ptr L13.bN 0), (eI ((((NS.new 6 8 4 (fun _ _ => false)).prog ((0 : Nat) : Int) ((0 : Nat) : Int) ((1 : Nat) : Int) (List.replicate 60 0)).ask (((NS.new 6 8 4 (fun _ _ => false)).prog ((0 : Nat) : Int) ((0 : Nat) : Int) ((1 : Nat) : Int) (List.replicate 60 0)).readOk ((0 : Nat) : Int) ((0 : Nat) : Int) ((0 : Nat) : Int))).wrong)), vT, (zf29 46)])) ?_
 refine wI (d_pick (b := true) (v := vT) rfl rfl) ?_
 refine wI (d_assign rfl) ?_
 refine wD (tN ?_)
 refine forget (fun zf32 => ([vT] ++ (zs zf32 1 46))) kr (fun zf32 => ?_)
 refine wpIn_ret ?_
 refine leave0 (v := vT) (res1 Try.results11 rfl) ?_
 exact ⟨rfl, oW⟩
theorem ref6FlipI_ok (la : List UInt8) (ls : List Int) (u1 u2 : Value) (W : World) (h1 : Ps No (Seq kB la u1) W) (h2 : Ps No (Seq kI ls u2) W) (g1 : la.length ≤ 1048576) (g2 : ls.length ≤ 1048576) (r2 : ∀ x ∈ ls, -9223372036854775808 ≤ x ∧ x < 9223372036854775808) :
    CW Try.prog 22 #[u1, u2] W (Rt (ROw 5 eB (flipI la ls) W)) := by
 have oW : Only No W W := Only.refl _ _
 refine enter (al := [u1, u2]) (k := 53) (l := ([u1, u2] ++ (us 53))) Try.func22 rfl Try.ntmps22 rfl rfl ?_
 refine wQ (pL ?_)
 refine wI (d_assign rfl) ?_
 refine wD (tN (wQ (pL ?_)))
 refine wO (d_buildL (cs := []) Try.underlying36 s_ti5 rfl (nb rfl) parts_nil rfl) ?_
 rintro _ w12 ⟨b11, rfl, g13, a14, o15⟩
 replace a14 : Arr 5 b11 (([] : List UInt8).map eB) w12 := a14
 have l_b11 : ([] : List UInt8).length = 0 := rfl
 have g_oW_b11 : W.heap.size ≤ b11 := Nat.le_trans oW.size g13
 replace h1 := h1.new o15 g13
 replace h2 := h2.new o15 g13
 replace oW := oW.tail0 o15
 refine wI (d_move rfl) ?_
 have a16 := Ow.of_map2 a14 l_b11
 have q_oW_o : Fr (some b11) none W.heap.size := Fr.new g_oW_b11
 replace h1 := h1.less (Y := (Orq (some b11) No)) (xx_br xx_id)
 replace h2 := h2.less (Y := (Orq (some b11) No)) (xx_br xx_id)
 refine wO (d_append Try.underlying36 Try.underlying36 s_ti5 rfl rfl rfl a16 (SrcV.of_seq h1 (fun _ => rfl)) (by simp; omega) (by simp; omega) rfl) ?_
 rintro u17 w18 ⟨bo19, a20, o21, q22⟩
 replace a20 : Ow 5 1 bo19 u17 (la).length ((la).map eB) w18 := by simpa using a20
 replace h1 := h1.gr o21 (fun k e => (.inl e)) (xx_re (Fr.of_or q22) xx_id)
 replace h2 := h2.gr o21 (fun k e => (.inl e)) (xx_re (Fr.of_or q22) xx_id)
 have tq := oW.size
 replace oW := oW.tailr o21 q_oW_o (fun _ e => by cases e)
 replace q_oW_o := qtr (Fr.of_or q22) q_oW_o tq
 clear tq
 refine wI (d_assign rfl) ?_
 refine wD (tN (wQ (wQ (pL ?_))))
 refine wI (d_assign rfl) ?_
 refine wD (tN (wB ?_))
 refine loop2 (fun (i : (Nat)) => fun (z : Nat → Value) => (([u1, u2, undef, undef, vN, u17, (eN i), (sli b11 0 0 0), u1, u17] ++ (zs z 10 44 ++ [undef])) : List Value)) (fun (i : (Nat)) => fun (w_ : World) => (i ≤ ls.length) ∧ Only (Orq bo19 No) w18 w_ ∧ Ow 5 1 bo19 u17 (flipI la (ls.take i)).length ((flipI la (ls.take i)).map eB) w_) (fun (i : (Nat)) => ls.length - i) 0 kr ?_ ?_
 ·
  refine ⟨?_, ?_, ?_⟩
  ·
   exact Nat.zero_le _
  ·
   exact Only.refl _ _
  ·
   exact a20
 rintro i z w24 ⟨hi, o23, a20⟩
 (try dsimp only)
 replace h1 := h1.step o23 (orq_mono no_any)
 replace h2 := h2.step o23 (orq_mono no_any)
 replace oW := oW.tail o23 (tl_q q_oW_o (fun _ e => by cases e) tl_no)
 have q_o23_o : Fr bo19 bo19 w18.heap.size := Fr.same
 refine wQ (wQ (pL ?_))
 refine wI (d_move rfl) ?_
 refine wI (d_move rfl) ?_
 refine wI (d_lenS rfl Try.underlying37 rfl h2) ?_
 refine wI (n_lss (a := i) (b := ls.length) rfl rfl rfl) ?_
 refine wD (tN ?_)
 refine cond_if rfl (fun c0 => ?_) (fun c0 => ?_)
 ·
  refine wK (tN (wQ (wB (wQ ?_))))
  have hl_ := flipI_length la (ls.take i)
  by_cases k0 : 0 ≤ (ls.getD i 0)
  ·
   obtain ⟨n_, hn_⟩ := Int.eq_ofNat_of_zero_le k0
   have rn_ := range_at r2 i oo
   rw [hn_] at rn_
   refine pL ?_
   refine wI (d_move rfl) ?_
   refine wI (d_move rfl) ?_
   refine wI (d_ix (i := i) (xs := ls) Try.underlying37 s_ti3 rfl h2 (show _ = Value.int _ (i : Int) from rfl) fo) ?_
   refine wF ([u1, u2, undef, undef, vN, u17, (eN i), (sli b11 0 0 0), u1, u17, (eN i), u2, (eN ls.length), (Value.bool (decide (i < ls.length))), (z 14), (z 15), u2, (eN i), (ixp u2 i)] ++ (zs z 19 35 ++ [undef])) ?_
   refine wI (dv_to (d_ldx (i := i) (xs := ls) (enc := eI) (v := (ls.getD i 0)) ⟨_, Try.underlying3, rfl⟩ rfl h2 (g_at fo)) (congrArg eI hn_)) ?_
   refine wI (n_geq (a := n_) (b := 0) rfl rfl (decide_eq_true (Nat.zero_le _))) ?_
   refine wI (d_move rfl) ?_
   refine wG (d_move rfl) ?_
   refine wG (d_move rfl) ?_
   refine wG (d_ix (i := i) (xs := ls) Try.underlying37 s_ti3 rfl h2 (show _ = Value.int _ (i : Int) from rfl) fo) ?_
   refine wG (dv_to (d_ldx (i := i) (xs := ls) (enc := eI) (v := (ls.getD i 0)) ⟨_, Try.underlying3, rfl⟩ rfl h2 (g_at fo)) (congrArg eI hn_)) ?_
   refine wF ([u1, u2, undef, undef, vN, u17, (eN i), (sli b11 0 0 0), u1, u17, (eN i), u2, (eN ls.length), (Value.bool (decide (i < ls.length))), (z 14), (z 15), u2, (eN i), (ixp u2 i), (eN n_), vT, vT, u2, (eN i), (ixp u2 i), (eN n_)] ++ (zs z 26 28 ++ [undef])) ?_
   refine wG (n_quo (a := n_) (b := 8) rfl rfl (by decide) oo) ?_
   refine wG (d_move rfl) ?_
   refine wG (d_lenS rfl Try.underlying36 rfl h1) ?_
   refine wG (n_lss (a := (n_ / 8)) (b := la.length) rfl rfl rfl) ?_
   refine wI (d_pick (b := true) (v := (Value.bool (decide ((n_ / 8) < la.length)))) rfl rfl) ?_
   refine wD (tN ?_)
   refine forget (fun zf25 => ([u1, u2, undef, undef, vN, u17, (eN i), (sli b11 0 0 0), u1, u17] ++ (zs zf25 10 20 ++ [(Value.bool (decide ((n_ / 8) < la.length)))] ++ (zs z 31 23 ++ [undef])))) kr (fun zf25 => ?_)
   refine cond_if rfl (fun c1 => ?_) (fun c1 => ?_)
   ·
    refine drawn_last (O := (Isq bo19)) (m := 23) (R := fun w_ => Ow 5 1 bo19 u17 ((flipI la (ls.take i)).set (n_ / 8) (((flipI la (ls.take i)).getD (n_ / 8) 0) ^^^ (shlB 1 (n_ % 8)))).length (((flipI la (ls.take i)).set (n_ / 8) (((flipI la (ls.take i)).getD (n_ / 8) 0) ^^^ (shlB 1 (n_ % 8)))).map eB) w_) [0, 0, 0, 6, 14, 30, 0, 0, 0, 384, 896, 1920, 4032, 8128, 0, 0, 49152, 114688, 245760, 507904, 1032192, 2097088, 4194303, 8388607] [(0, 31), (1, 32), (2, 33), (3, 34), (4, 35), (5, 36), (6, 37), (7, 38), (8, 39), (9, 40), (10, 41), (11, 42), (12, 43), (13, 44), (14, 45), (15, 46), (16, 47), (17, 48), (18, 49), (19, 50), (20, 51), (21, 52), (22, 53)] [u17, u2, (eN i), (ixp u2 i), (eN n_), (eN (n_ / 8)), u17, u2, (eN i), (ixp u2 i), (eN n_), (eN (n_ / 8)), (ixp u17 (n_ / 8)), (eB ((flipI la (ls.take i)).getD (n_ / 8) 0)), u2, (eN i), (ixp u2 i), (eN n_), (eN (n_ % 8)), (Value.int .u64 ((n_ % 8 : Nat) : Int)), (eB (shlB 1 (n_ % 8))), (eB (((flipI la (ls.take i)).getD (n_ / 8) 0) ^^^ (shlB 1 (n_ % 8)))), (ixp u17 (n_ / 8))] ([u1, u2, undef, undef, vN, u17, (eN i), (sli b11 0 0 0), u1, u17] ++ (zs zf25 10 20 ++ [(Value.bool (decide ((n_ / 8) < la.length))), u17, u2, (eN i), (ixp u2 i), (eN n_), (eN (n_ / 8)), u17, u2, (eN i), (ixp u2 i), (eN n_), (eN (n_ / 8)), (ixp u17 (n_ / 8)), (eB ((flipI la (ls.take i)).getD (n_ / 8) 0)), u2, (eN i), (ixp u2 i), (eN n_), (eN (n_ % 8)), (Value.int .u64 ((n_ % 8 : Nat) : Int)), (eB (shlB 1 (n_ % 8))), (eB (((flipI la (ls.take i)).getD (n_ / 8) 0) ^^^ (shlB 1 (n_ % 8)))), (ixp u17 (n_ / 8)), undef])) s_mx kr kr rfl rfl (by decide) kr kr ?_ (fun _ _ h_ ho_ => h_.step0 ho_) ⟨_, rfl, rfl, fun w_ hO_ => gd rfl ((d_stx (i := (n_ / 8)) (xs := (flipI la (ls.take i))) (enc := eB) (v := (((flipI la (ls.take i)).getD (n_ / 8) 0) ^^^ (shlB 1 (n_ % 8)))) s_ti5 rfl rfl rfl (a20.step0 hO_) (by have := flipI_length la (ls.take i); first | omega | (simp; done) | (simp; omega)) rfl).mono fun u_ w2_ h_ => ⟨h_.2, h_.1⟩)⟩ ?_
    ·
     intro w_ hO_
     refine AllG.cons (gi rfl (d_move rfl)) ?_
     refine AllG.cons (gi rfl (d_move rfl)) ?_
     refine AllG.cons (gi rfl (d_move rfl)) ?_
     refine AllG.cons (gi rfl (d_ix (i := i) (xs := ls) Try.underlying37 s_ti3 rfl (h2.step0 hO_) (show _ = Value.int _ (i : Int) from rfl) fo)) ?_
     refine AllG.cons (gi rfl (dv_to (d_ldx (i := i) (xs := ls) (enc := eI) (v := (ls.getD i 0)) ⟨_, Try.underlying3, rfl⟩ rfl (h2.step0 hO_) (g_at fo)) (congrArg eI hn_))) ?_
     refine AllG.cons (gi rfl (n_quo (a := n_) (b := 8) rfl rfl (by decide) oo)) ?_
     refine AllG.cons (gi rfl (d_move rfl)) ?_
     refine AllG.cons (gi rfl (d_move rfl)) ?_
     refine AllG.cons (gi rfl (d_move rfl)) ?_
     refine AllG.cons (gi rfl (d_ix (i := i) (xs := ls) Try.underlying37 s_ti3 rfl (h2.step0 hO_) (show _ = Value.int _ (i : Int) from rfl) fo)) ?_
     refine AllG.cons (gi rfl (dv_to (d_ldx (i := i) (xs := ls) (enc := eI) (v := (ls.getD i 0)) ⟨_, Try.underlying3, rfl⟩ rfl (h2.step0 hO_) (g_at fo)) (congrArg eI hn_))) ?_
     refine AllG.cons (gi rfl (n_quo (a := n_) (b := 8) rfl rfl (by decide) oo)) ?_
     refine AllG.cons (gi rfl (d_ix (i := (n_ / 8)) (xs := (flipI la (ls.take i))) Try.underlying36 s_ti5 rfl ((a20.step0 hO_).seq (X := No) (fun _ _ h => h)) (show _ = Value.int _ ((n_ / 8 : Nat) : Int) from rfl) (by have := flipI_length la (ls.take i); first | omega | (simp; done) | (simp; omega)))) ?_
     refine AllG.cons (gi rfl (d_ldx (i := (n_ / 8)) (xs := (flipI la (ls.take i))) (enc := eB) (v := ((flipI la (ls.take i)).getD (n_ / 8) 0)) ⟨_, Try.underlying5, rfl⟩ rfl ((a20.step0 hO_).seq (X := No) (fun _ _ h => h)) (g_at (by have := flipI_length la (ls.take i); first | omega | (simp; done) | (simp; omega))))) ?_
     refine AllG.cons (gi rfl (d_move rfl)) ?_
     refine AllG.cons (gi rfl (d_move rfl)) ?_
     refine AllG.cons (gi rfl (d_ix (i := i) (xs := ls) Try.underlying37 s_ti3 rfl (h2.step0 hO_) (show _ = Value.int _ (i : Int) from rfl) fo)) ?_
     refine AllG.cons (gi rfl (dv_to (d_ldx (i := i) (xs := ls) (enc := eI) (v := (ls.getD i 0)) ⟨_, Try.underlying3, rfl⟩ rfl (h2.step0 hO_) (g_at fo)) (congrArg eI hn_))) ?_
     refine AllG.cons (gi rfl (n_rem (a := n_) (b := 8) rfl rfl (by decide))) ?_
     refine AllG.cons (gi rfl (n_toU Try.underlying3 Try.underlying94 rfl oo)) ?_
     refine AllG.cons (gi rfl (b_shl (a := (n_ % 8)) rfl rfl oo)) ?_
     refine AllG.cons (gi rfl (b_xor (c := ((flipI la (ls.take i)).getD (n_ / 8) 0)) (e := (shlB 1 (n_ % 8))) rfl rfl)) ?_
     refine AllG.cons (gi rfl (d_ix (i := (n_ / 8)) (xs := (flipI la (ls.take i))) Try.underlying36 s_ti5 rfl ((a20.step0 hO_).seq (X := No) (fun _ _ h => h)) (show _ = Value.int _ ((n_ / 8 : Nat) : Int) from rfl) (by have := flipI_length la (ls.take i); first | omega | (simp; done) | (simp; omega)))) ?_
     exact AllG.nil
    intro w26 o27 a28
    replace h1 := h1.gr o27 (fun k e => (.inl e)) (xx_re Fr.same xx_id)
    replace h2 := h2.gr o27 (fun k e => (.inl e)) (xx_re Fr.same xx_id)
    have tq := oW.size
    replace oW := oW.tailr o27 q_oW_o (fun _ e => by cases e)
    replace q_oW_o := qtr Fr.same q_oW_o tq
    clear tq
    have tq := o23.size
    replace o23 := o23.tailr o27 q_o23_o (fun k e => (.inl e))
    replace q_o23_o := qtr Fr.same q_o23_o tq
    clear tq
    refine inb_n (tN ?_)
    refine pL ?_
    refine wI (d_move rfl) ?_
    refine wI (n_add (a := i) (b := 1) rfl rfl oo) ?_
    refine wI (d_assign rfl) ?_
    refine wD (tN ?_)
    refine ⟨_, (i + 1), rfl, kr, ⟨?_, ?_, ?_⟩, ?_⟩
    ·
     (try dsimp only)
     all_goals (omega)
    ·
     exact o23
    ·
     (try dsimp only)
     all_goals (rw [← flipI_next la c0]; rw [← flI_yes hn_ oo]; exact a28)
    ·
     (try dsimp only)
     all_goals (omega)
   refine wK ?_
   refine inb_n (tN ?_)
   refine pL ?_
   refine wI (d_move rfl) ?_
   refine wI (n_add (a := i) (b := 1) rfl rfl oo) ?_
   refine wI (d_assign rfl) ?_
   refine wD (tN ?_)
   refine ⟨_, (i + 1), rfl, kr, ⟨?_, ?_, ?_⟩, ?_⟩
   ·
    (try dsimp only)
    all_goals (omega)
   ·
    exact o23
   ·
    (try dsimp only)
    all_goals (rw [← flipI_next la c0, flI_no (fun h_ => absurd h_.2 oo)]; exact a20)
   ·
    (try dsimp only)
    all_goals (omega)
  refine pL ?_
  refine wI (d_move rfl) ?_
  refine wI (d_move rfl) ?_
  refine wI (d_ix (i := i) (xs := ls) Try.underlying37 s_ti3 rfl h2 (show _ = Value.int _ (i : Int) from rfl) fo) ?_
  refine wF ([u1, u2, undef, undef, vN, u17, (eN i), (sli b11 0 0 0), u1, u17, (eN i), u2, (eN ls.length), (Value.bool (decide (i < ls.length))), (z 14), (z 15), u2, (eN i), (ixp u2 i)] ++ (zs z 19 35 ++ [undef])) ?_
  refine wI (d_ldx (i := i) (xs := ls) (enc := eI) (v := (ls.getD i 0)) ⟨_, Try.underlying3, rfl⟩ rfl h2 (g_at fo)) ?_
  refine wI (d_geq (k := .i64) (m := (ls.getD i 0)) (n := 0) rfl rfl (decide_eq_false k0)) ?_
  refine wI (d_move rfl) ?_
  refine wX ?_
  refine wX ?_
  refine wX ?_
  refine wX ?_
  refine wF ([u1, u2, undef, undef, vN, u17, (eN i), (sli b11 0 0 0), u1, u17, (eN i), u2, (eN ls.length), (Value.bool (decide (i < ls.length))), (z 14), (z 15), u2, (eN i), (ixp u2 i), (eI (ls.getD i 0)), vF, vF, undef, undef, undef, undef] ++ (zs z 26 28 ++ [undef])) ?_
  refine wX ?_
  refine wX ?_
  refine wX ?_
  refine wX ?_
  refine wI (d_pick (b := false) (v := vF) rfl rfl) ?_
  refine wD (tN ?_)
  refine forget (fun zf29 => ([u1, u2, undef, undef, vN, u17, (eN i), (sli b11 0 0 0), u1, u17] ++ (zs zf29 10 20 ++ [vF] ++ (zs z 31 23 ++ [undef])))) kr (fun zf29 => ?_)
  refine cond_f rfl ?_
  refine wK ?_
  refine inb_n (tN ?_)
  refine pL ?_
  refine wI (d_move rfl) ?_
  refine wI (n_add (a := i) (b := 1) rfl rfl oo) ?_
  refine wI (d_assign rfl) ?_
  refine wD (tN ?_)
  refine ⟨_, (i + 1), rfl, kr, ⟨?_, ?_, ?_⟩, ?_⟩
  ·
   (try dsimp only)
   all_goals (omega)
  ·
   exact o23
  ·
   (try dsimp only)
   all_goals (rw [← flipI_next la c0, flI_no (fun h_ => k0 h_.1)]; exact a20)
  ·
   (try dsimp only)
   all_goals (omega)
 refine wpIn_exit ?_
 refine then_x (then_x (inb_e ?_))
 refine tN ?_
 refine forget (fun zf30 => (zs zf30 0 5 ++ [u17, (eN i)] ++ (zs zf30 7 48))) kr (fun zf30 => ?_)
 refine wQ (pL ?_)
 refine wI (d_move rfl) ?_
 refine wI (d_assign rfl) ?_
 refine wD (tN ?_)
 refine wpIn_ret ?_
 refine leave0 (v := u17) (res1 Try.results22 rfl) ?_
 exact ROw.mk_ a20 (by rw [show i = ls.length by omega, List.take_length]) q_oW_o oW
theorem law7Make_ok (a b c : Int) (W : World) :
    CW Try.prog 15 #[(Value.agg #[(eI a), (eI b), (eI c)])] W (Rt (RIs (.agg #[eN (6 + (a % ((3 : Nat) : Int)).toNat), eN (8 + (b % ((5 : Nat) : Int)).toNat), eN (4 + (c % ((5 : Nat) : Int)).toNat)]) W)) := by
 have oW : Only No W W := Only.refl _ _
 refine enter (al := [(Value.agg #[(eI a), (eI b), (eI c)])]) (k := 15) (l := ([(Value.agg #[(eI a), (eI b), (eI c)])] ++ (us 15))) Try.func15 rfl Try.ntmps15 rfl rfl ?_
 refine wQ (pL ?_)
 refine wO (d_box rfl rfl) ?_
 rintro _ w11 ⟨g, rfl, g12, a13, o14⟩
 have g_oW_g : W.heap.size ≤ g := Nat.le_trans oW.size g12
 replace oW := oW.tail0 o14
 refine wO (d_alloc s_ti23 rfl) ?_
 rintro _ w15 ⟨r, rfl, g16, a17, o18⟩
 have n_g_r : g ≠ r := a13.ne g16
 have g_oW_r : W.heap.size ≤ r := Nat.le_trans oW.size g16
 replace a13 := a13.step0 o18
 replace oW := oW.tail0 o18
 refine wD (tN (wQ ?_))
 refine drawn_last (O := (Is1 r)) (m := 13) (R := fun w_ => Arr 23 r [(eN (6 + ((a % ((3 : Nat) : Int)).toNat))), (eN (8 + ((b % ((5 : Nat) : Int)).toNat))), (eN (4 + ((c % ((5 : Nat) : Int)).toNat)))] w_) [0, 1, 3, 7, 0, 16, 55, 119, 0, 256, 887, 1911, 4095, 8191] [(0, 3), (1, 4), (2, 5), (3, 6), (4, 7), (5, 8), (6, 9), (7, 10), (8, 11), (9, 12), (10, 13), (11, 14), (12, 15)] [(ptr g 0), (eI a), (eN ((a % ((3 : Nat) : Int)).toNat)), (eN (6 + ((a % ((3 : Nat) : Int)).toNat))), (ptr g 1), (eI b), (eN ((b % ((5 : Nat) : Int)).toNat)), (eN (8 + ((b % ((5 : Nat) : Int)).toNat))), (ptr g 2), (eI c), (eN ((c % ((5 : Nat) : Int)).toNat)), (eN (4 + ((c % ((5 : Nat) : Int)).toNat))), (Value.agg #[(eN (6 + ((a % ((3 : Nat) : Int)).toNat))), (eN (8 + ((b % ((5 : Nat) : Int)).toNat))), (eN (4 + ((c % ((5 : Nat) : Int)).toNat)))])] [(Value.agg #[(eI a), (eI b), (eI c)]), (ptr g 0), (ptr r 0), (ptr g 0), (eI a), (eN ((a % ((3 : Nat) : Int)).toNat)), (eN (6 + ((a % ((3 : Nat) : Int)).toNat))), (ptr g 1), (eI b), (eN ((b % ((5 : Nat) : Int)).toNat)), (eN (8 + ((b % ((5 : Nat) : Int)).toNat))), (ptr g 2), (eI c), (eN ((c % ((5 : Nat) : Int)).toNat)), (eN (4 + ((c % ((5 : Nat) : Int)).toNat))), (Value.agg #[(eN (6 + ((a % ((3 : Nat) : Int)).toNat))), (eN (8 + ((b % ((5 : Nat) : Int)).toNat))), (eN (4 + ((c % ((5 : Nat) : Int)).toNat)))])] s_mx kr kr rfl rfl (by decide) kr kr ?_ (fun _ _ h_ ho_ => h_.step0 ho_) ⟨_, rfl, rfl, fun w_ hO_ => gd rfl ((d_storeAg (cs' := [(eN (6 + ((a % ((3 : Nat) : Int)).toNat))), (eN (8 + ((b % ((5 : Nat) : Int)).toNat))), (eN (4 + ((c % ((5 : Nat) : Int)).toNat)))]) s_ti23 rfl rfl rfl (oc_cons rfl (oc_cons rfl (oc_cons rfl oc_nil))) (a17.step0 hO_) (by decide) rfl).mono fun u_ w2_ h_ => ⟨h_.2, h_.1⟩)⟩ ?_
 ·
  intro w_ hO_
  refine AllG.cons (gi rfl (d_fieldAddr (j := 0) Try.underlying23 rfl s_ti3 (by decide) rfl rfl)) ?_
  refine AllG.cons (gi rfl (d_load (v := (eI a)) ⟨_, Try.underlying3, rfl⟩ rfl (a13.step0 hO_) rfl)) ?_
  refine AllG.cons (gc rfl (d_call (xl := [.tmp 4, .const (.int .i64 3)]) (al := [(eI a), (eN 3)]) Try.func12 kr rfl rfl rfl (law7Within_ok a 3 _ oo oo))) ?_
  refine AllG.cons (gi rfl (n_add (a := 6) (b := ((a % ((3 : Nat) : Int)).toNat)) rfl rfl oo)) ?_
  refine AllG.cons (gi rfl (d_fieldAddr (j := 1) Try.underlying23 rfl s_ti3 (by decide) rfl rfl)) ?_
  refine AllG.cons (gi rfl (d_load (v := (eI b)) ⟨_, Try.underlying3, rfl⟩ rfl (a13.step0 hO_) rfl)) ?_
  refine AllG.cons (gc rfl (d_call (xl := [.tmp 8, .const (.int .i64 5)]) (al := [(eI b), (eN 5)]) Try.func12 kr rfl rfl rfl (law7Within_ok b 5 _ oo oo))) ?_
  refine AllG.cons (gi rfl (n_add (a := 8) (b := ((b % ((5 : Nat) : Int)).toNat)) rfl rfl oo)) ?_
  refine AllG.cons (gi rfl (d_fieldAddr (j := 2) Try.underlying23 rfl s_ti3 (by decide) rfl rfl)) ?_
  refine AllG.cons (gi rfl (d_load (v := (eI c)) ⟨_, Try.underlying3, rfl⟩ rfl (a13.step0 hO_) rfl)) ?_
  refine AllG.cons (gc rfl (d_call (xl := [.tmp 12, .const (.int .i64 5)]) (al := [(eI c), (eN 5)]) Try.func12 kr rfl rfl rfl (law7Within_ok c 5 _ oo oo))) ?_
  refine AllG.cons (gi rfl (n_add (a := 4) (b := ((c % ((5 : Nat) : Int)).toNat)) rfl rfl oo)) ?_
  refine AllG.cons (gi rfl (d_buildS (pl := [(0, 1), (1, 1), (2, 1)]) (zs := [(eN 0), (eN 0), (eN 0)]) (cs := [(eN (6 + ((a % ((3 : Nat) : Int)).toNat))), (eN (8 + ((b % ((5 : Nat) : Int)).toNat))), (eN (4 + ((c % ((5 : Nat) : Int)).toNat)))]) Try.underlying23 s_ti23 ⟨_, _, _, _, rfl, s_ti3, ⟨_, _, _, _, rfl, s_ti3, ⟨_, _, _, _, rfl, s_ti3, rfl⟩⟩⟩ rfl (parts_cons (vs := [(eN (6 + ((a % ((3 : Nat) : Int)).toNat)))]) (cells_of (v := (eN (6 + ((a % ((3 : Nat) : Int)).toNat)))) rfl rfl) (parts_cons (vs := [(eN (8 + ((b % ((5 : Nat) : Int)).toNat)))]) (cells_of (v := (eN (8 + ((b % ((5 : Nat) : Int)).toNat)))) rfl rfl) (parts_cons (vs := [(eN (4 + ((c % ((5 : Nat) : Int)).toNat)))]) (cells_of (v := (eN (4 + ((c % ((5 : Nat) : Int)).toNat)))) rfl rfl) parts_nil))) rfl)) ?_
  exact AllG.nil
 intro w19 o20 a21
 replace a13 := a13.step o20 (fun e => absurd e n_g_r)
 replace oW := oW.tailb o20 g_oW_r
 refine tN ?_
 refine wpIn_ret ?_
 refine leave0 (v := (Value.agg #[(eN (6 + ((a % ((3 : Nat) : Int)).toNat))), (eN (8 + ((b % ((5 : Nat) : Int)).toNat))), (eN (4 + ((c % ((5 : Nat) : Int)).toNat)))])) (resC Try.results15 ⟨_, Try.underlying23, rfl⟩ s_ti23 rfl a21 rfl) ?_
 exact ⟨rfl, oW⟩
end Go.Proofs.YtpamdlnobekihaaF
namespace Go.Proofs.YtpamdlnobekihaaF
open Go Shelf YtpamdlnobekihaaS Ram
def tabV (n : Nat) (f : Nat → Value) : List Value := (List.range n).map f
theorem tabV_len {n : Nat} {f : Nat → Value} : (tabV n f).length = n := by simp [tabV]
theorem tabV_at {n i : Nat} {f : Nat → Value} (h : i < n) : (tabV n f)[i]? = some (f i) := by simp [tabV, h]
theorem tabV_set {n i : Nat} {f : Nat → Value} {v : Value} : (tabV n f).set i v = tabV n (fun j => if j = i then v else f j) := by
 apply List.ext_getElem?
 intro j
 rw [List.getElem?_set]
 unfold tabV
 rw [List.length_map, List.length_range]
 by_cases h : i = j
 ·subst h
  rw [if_pos rfl]
  by_cases h2 : i < n
  ·rw [if_pos h2, List.getElem?_map, List.getElem?_range h2]; simp
  ·rw [if_neg h2, List.getElem?_map, List.getElem?_eq_none (by simpa using h2)]; rfl
 ·rw [if_neg h, List.getElem?_map, List.getElem?_map]
  by_cases h2 : j < n
  ·rw [List.getElem?_range h2]; simp [Ne.symm h]
  ·rw [List.getElem?_eq_none (by simpa using h2)]; rfl
theorem tabV_congr {n : Nat} {f g : Nat → Value} (h : ∀ j, j < n → f j = g j) : tabV n f = tabV n g := List.map_congr_left fun j hj => h j (by simpa using hj)
def stR : Nat → (Nat → Value) → (Nat → St) → List Value
 | 0, _, _ => []
 | n + 1, r, f => stR n r f ++ [r n, eN (f n).nx, eI (f n).er, .bool (f n).bad]
section
variable {n i v : Nat} {r : Nat → Value} {f : Nat → St}
theorem stR_len (n : Nat) (r : Nat → Value) (f : Nat → St) : (stR n r f).length = n * 4 := by
 induction n with
 | zero => rfl
 | succ n ih => rw [stR, List.length_append, ih]; simp; omega
theorem stR_at {k : Nat} (hi : i < n) (hk : k < 4) : (stR n r f)[i * 4 + k]? = [r i, eN (f i).nx, eI (f i).er, .bool (f i).bad][k]? := by
 induction n with
 | zero => omega
 | succ n ih =>
  unfold stR
  have hl := stR_len n r f
  rcases Nat.lt_or_ge i n with h | h
  ·rw [List.getElem?_append_left (by omega)]
   exact ih h
  ·have : i = n := by omega
   subst this
   rw [List.getElem?_append_right (by omega), hl, Nat.add_sub_cancel_left]
theorem stR_congr {g : Nat → St} {q : Nat → Value} (h : ∀ j, j < n → f j = g j) (h2 : ∀ j, j < n → r j = q j) : stR n r f = stR n q g := by
 induction n with
 | zero => rfl
 | succ n ih => unfold stR; rw [ih (fun j hj => h j (by omega)) (fun j hj => h2 j (by omega)), h n (by omega), h2 n (by omega)]
theorem stR_set (hi : i < n) {k : Nat} (hk : k < 4) {x : Value} {s' : St} (h : ([r i, eN (f i).nx, eI (f i).er, .bool (f i).bad] : List Value).set k x = [r i, eN s'.nx, eI s'.er, .bool s'.bad]) : (stR n r f).set (i * 4 + k) x = stR n r (fun j => if j = i then s' else f j) := by
 induction n with
 | zero => omega
 | succ n ih =>
  unfold stR
  have hl := stR_len n r f
  rcases Nat.lt_or_ge i n with h1 | h1
  ·rw [List.set_append_left _ _ (by omega), ih h1]
   have e : (fun j => if j = i then s' else f j) n = f n := if_neg (by omega)
   rw [e]
  ·have : i = n := by omega
   subst this
   have e : (fun j => if j = i then s' else f j) i = s' := if_pos rfl
   rw [List.set_append_right _ _ (by omega), hl, Nat.add_sub_cancel_left, h, e]
   congr 1
   exact stR_congr (fun j hj => by rw [if_neg (by omega)]) fun _ _ => rfl
end
def Fm (t : TypeId) (n : Nat) (b : Nat → Nat) (c : Nat → List Value) (w : World) : Prop := ∀ i, i < n → ∃ rest, Arr t (b i) (c i ++ rest) w
def Ij (n : Nat) (b : Nat → Nat) : Prop := ∀ i j, i < n → j < n → b i = b j → i = j
section
variable {t t' : TypeId} {n i b0 : Nat} {b : Nat → Nat} {c c' : Nat → List Value} {w w' : World} {O : Nat → Prop} {cs : List Value}
theorem Fm.step (h : Fm t n b c w) (hO : Only O w w') (hb : ∀ i, i < n → ¬ O (b i)) : Fm t n b c w' := fun i hi => by
 obtain ⟨r, h1⟩ := h i hi
 exact ⟨r, h1.step hO (hb i hi)⟩
theorem Fm.other (h : Fm t n b c w) (hA : Arr t' b0 cs w) (ht : t ≠ t') (hO : Only (Is1 b0) w w') : Fm t n b c w' := h.step hO fun i hi (e : b i = b0) => by
 obtain ⟨r, h1⟩ := h i hi
 exact arr_ne h1 hA ht e
theorem Fm.put (h : Fm t n b c w) (hI : Ij n b) (hi : i < n) (hc : c' i = cs) (hx : ∀ j, j < n → j ≠ i → c' j = c j) {rest : List Value} (hW : Arr t (b i) (cs ++ rest) w') (hO : Only (Is1 (b i)) w w') : Fm t n b c' w' := fun j hj => by
 by_cases e : j = i
 ·subst e; rw [hc]; exact ⟨_, hW⟩
 ·rw [hx j hj e]
  obtain ⟨r, h1⟩ := h j hj
  exact ⟨r, h1.step hO fun t => e (hI _ _ hj hi t)⟩
theorem Fm.to (h : Fm t n b c w) (hx : ∀ j, j < n → c' j = c j) : Fm t n b c' w := fun j hj => by rw [hx j hj]; exact h j hj
end
structure RL where
 tN : TypeId
 tU : TypeId
 tV : TypeId
 tB : TypeId
 tW : TypeId
 tP : TypeId
 tZ : TypeId
 bN : Nat
 bU : Nat
 cU : Nat
 bV : Nat
 cV : Nat
 nD : Nat
 nK : Nat
 bd : Nat → Nat
 cd : Nat → Nat
 bw : Nat → Nat
 cw : Nat → Nat
 bp : Nat → Nat
 cp : Nat → Nat
 bz : Nat → Nat
def RL.S (L : RL) : Nat → Prop := fun k => k = L.bN ∨ k = L.bU ∨ k = L.bV ∨ (∃ j, j < L.nD ∧ k = L.bd j) ∨ (∃ j, j < L.nD ∧ k = L.bw j) ∨ (∃ j, j < L.nK ∧ k = L.bp j) ∨ (∃ j, j < L.nK ∧ k = L.bz j)
def refC (L : RL) (vm : Value) (s : NS) : List Value :=
 [eN s.gD, eN s.gB, eN s.gP, sli L.bU 0 s.gD L.cU, sli L.bV 0 s.gD L.cV, eN s.stop, vm, .bool s.dead, eI s.ops, eI s.wrong]
def RL.rb (L : RL) (s : NS) (d : Nat) : List Value := stR s.gB (fun b => sli (L.bp (d * s.gB + b)) 0 s.gP (L.cp (d * s.gB + b))) (s.bl d)
def RL.rw_ (L : RL) (s : NS) (d : Nat) : List Value := tabV s.gB fun b => sli (L.bz (d * s.gB + b)) 0 s.gP s.gP
structure RdO (L : RL) (s : NS) (vp vz : Nat → Nat → Value) (vm : Value) (w : World) : Prop where
 n : Fm L.tN 1 (fun _ => L.bN) (fun _ => refC L vm s) w
 u : Fm L.tU 1 (fun _ => L.bU) (fun _ => tabV s.gD fun d => sli (L.bd d) 0 s.gB (L.cd d)) w
 v : Fm L.tV 1 (fun _ => L.bV) (fun _ => tabV s.gD fun d => sli (L.bw d) 0 s.gB (L.cw d)) w
 b : Fm L.tB s.gD L.bd (L.rb s) w
 q : Fm L.tW s.gD L.bw (L.rw_ s) w
 p : Fm L.tP (s.gD * s.gB) L.bp (fun k => tabV s.gP (vp k)) w
 z : Fm L.tZ (s.gD * s.gB) L.bz (fun k => tabV s.gP (vz k)) w
structure RdR (s : NS) (vp vz : Nat → Nat → Value) (vm : Value) (w : World) : Prop where
 d : ∀ k p, k < s.gD * s.gB → p < s.gP → Seq kB (s.dl (k * s.gP + p)) (vp k p) w
 z : ∀ k p, k < s.gD * s.gB → p < s.gP → Seq kI (s.nl (k * s.gP + p)) (vz k p) w
 m : Seq kB s.mask vm w
structure Rd (L : RL) (s : NS) (X : Nat → Prop) (w : World) : Prop where
 ok : s.Ok
 lD : L.nD = s.gD
 lK : L.nK = s.gD * s.gB
 ty : [L.tN, L.tU, L.tV, L.tB, L.tW, L.tP, L.tZ].Nodup
 id_ : Ij s.gD L.bd
 ip : Ij (s.gD * s.gB) L.bp
 iz : Ij (s.gD * s.gB) L.bz
 lt : ∀ k, L.S k → k < w.heap.size
 dis : ∀ k, X k → ¬ L.S k
 v : ∃ vp vz vm, RdO L s vp vz vm w ∧ Ps (fun k => X k ∨ L.S k) (RdR s vp vz vm) w
section
variable {L : RL} {s s' : NS} {X X' Y O T : Nat → Prop} {w w' : World} {b : Nat} {bo bo' : Option Nat} {vp vz vp' vz' : Nat → Nat → Value} {vm vm' : Value}
theorem RL.in_n : L.S L.bN := .inl rfl
theorem RL.in_u : L.S L.bU := .inr (.inl rfl)
theorem RL.in_v : L.S L.bV := .inr (.inr (.inl rfl))
theorem RL.in_d {j : Nat} (h : j < L.nD) : L.S (L.bd j) := .inr (.inr (.inr (.inl ⟨j, h, rfl⟩)))
theorem RL.in_w {j : Nat} (h : j < L.nD) : L.S (L.bw j) := .inr (.inr (.inr (.inr (.inl ⟨j, h, rfl⟩))))
theorem RL.in_p {j : Nat} (h : j < L.nK) : L.S (L.bp j) := .inr (.inr (.inr (.inr (.inr (.inl ⟨j, h, rfl⟩)))))
theorem RL.in_z {j : Nat} (h : j < L.nK) : L.S (L.bz j) := .inr (.inr (.inr (.inr (.inr (.inr ⟨j, h, rfl⟩)))))
theorem RdO.step (h : RdO L s vp vz vm w) (hl : L.nD = s.gD) (hk : L.nK = s.gD * s.gB) (hO : Only O w w') (hX : ∀ k, O k → ¬ L.S k) : RdO L s vp vz vm w' where
 n := h.n.step hO fun _ _ e => hX _ e RL.in_n
 u := h.u.step hO fun _ _ e => hX _ e RL.in_u
 v := h.v.step hO fun _ _ e => hX _ e RL.in_v
 b := h.b.step hO fun _ hi e => hX _ e (RL.in_d (by omega))
 q := h.q.step hO fun _ hi e => hX _ e (RL.in_w (by omega))
 p := h.p.step hO fun _ hi e => hX _ e (RL.in_p (by omega))
 z := h.z.step hO fun _ hi e => hX _ e (RL.in_z (by omega))
theorem Rd.re (h : Rd L s X w) (hO : Only O w w') (hX : ∀ k, O k → X k) (hXX : ∀ k, k < w.heap.size → X' k → X k) : Rd L s X' w' where
 ok := h.ok
 lD := h.lD
 lK := h.lK
 ty := h.ty
 id_ := h.id_
 ip := h.ip
 iz := h.iz
 lt := fun k hk => Nat.lt_of_lt_of_le (h.lt k hk) hO.size
 dis := fun k hk hs => h.dis k (hXX k (h.lt k hs) hk) hs
 v := by
  obtain ⟨vp, vz, vm, h3, h4⟩ := h.v
  exact ⟨vp, vz, vm, h3.step h.lD h.lK hO fun k hk => h.dis k (hX k hk), h4.re hO (fun k hk => .inl (hX k hk)) fun k hk t => t.imp (hXX k hk) id⟩
theorem Rd.step (h : Rd L s X w) (hO : Only T w w') (hT : ∀ k, T k → X k) : Rd L s X w' := h.re hO hT fun _ _ t => t
theorem Rd.step0 (h : Rd L s X w) (hO : Only No w w') : Rd L s X w' := h.step hO fun _ x => x.elim
theorem Rd.less (h : Rd L s X w) (hY : ∀ k, k < w.heap.size → Y k → X k) : Rd L s Y w := h.re (Only.refl No w) (fun _ t => t.elim) hY
theorem Rd.new (h : Rd L s X w) (hO : Only No w w') (hb : w.heap.size ≤ b) : Rd L s (Or1 b X) w' := h.re hO (fun _ t => t.elim) fun k hk t => t.elim (fun e => by omega) id
theorem Rd.gr (h : Rd L s X w) (hO : Only (Isq bo) w w') (hX : ∀ k, bo = some k → X k) (hXX : ∀ k, k < w.heap.size → X' k → X k) : Rd L s X' w' := h.re hO hX hXX
theorem rd_to (h : Rd L s X w) (e : s = s') : Rd L s' X w := e ▸ h
variable {P : Program} {d : Option Tmp} {tt : TypeId} {st : String} {af : Array Edge} {g : Option (Nat × Bool)} {ρ : Operand → Value} {x y : Operand} {t e : TypeId} {bytes i j f n : Nat} {z v u : Value} {k : IntKind}
theorem fm_load {t1 : TypeId} {c : Nat → List Value} {b : Nat → Nat} {N i o : Nat} (h : Fm t1 N b c w) (ht : Sc P t) (hx : ρ x = ptr (b i) o) (hi : i < N) (hv : (c i)[o]? = some v) : DV P ⟨d, .load t x, tt, st, af, g⟩ ρ w v := by
 obtain ⟨r, h1⟩ := h i hi
 refine d_load ht hx h1 ?_
 rw [List.getElem?_append_left (List.getElem?_eq_some_iff.1 hv).1]; exact hv
theorem rd_ld (h : Rd L s X w) (ht : Sc P t) (hx : ρ x = ptr L.bN i) (hv : ∀ vm, (refC L vm s)[i]? = some v) : DV P ⟨d, .load t x, tt, st, af, g⟩ ρ w v := by
 obtain ⟨vp, vz, vm, h3, _⟩ := h.v
 exact fm_load h3.n ht hx (by decide : 0 < 1) (hv vm)
theorem rd_ldAg {vs : List Value} (h : Rd L s X w) (ht : Ag P t) (hz : TI P t n bytes z) (hx : ρ x = ptr L.bN 0) (hv : vs = [eN s.gD, eN s.gB, eN s.gP]) (hn : n = 3) : DV P ⟨d, .load t x, tt, st, af, g⟩ ρ w (.agg vs.toArray) := by
 obtain ⟨vp, vz, vm, h3, _⟩ := h.v
 obtain ⟨r, h1⟩ := h3.n 0 (by decide)
 subst hv; subst hn
 exact d_loadAg ht hz hx h1 rfl rfl
theorem rd_ldm (h : Rd L s X w) (hY : ∀ k, k < w.heap.size → Y k → X k ∨ L.S k) (ht : Sc P t) (hx : ρ x = ptr L.bN 6) : Does P ⟨d, .load t x, tt, st, af, g⟩ ρ w fun u w' => Ps Y (Seq kB s.mask u) w ∧ w = w' := by
 obtain ⟨vp, vz, vm, h3, h4⟩ := h.v
 exact (fm_load (v := vm) h3.n ht hx (by decide : 0 < 1) rfl).mono fun u w' h => by obtain ⟨rfl, rfl⟩ := h; exact ⟨(h4.imp fun _ h => h.m).less hY, rfl⟩
theorem rd_ldU (h : Rd L s X w) (ht : Sc P t) (hx : ρ x = ptr L.bU i) (hi : i < s.gD) : DV P ⟨d, .load t x, tt, st, af, g⟩ ρ w (sli (L.bd i) 0 s.gB (L.cd i)) := by
 obtain ⟨vp, vz, vm, h3, h4⟩ := h.v
 exact fm_load h3.u ht hx (by decide : 0 < 1) (tabV_at hi)
theorem rd_ldV (h : Rd L s X w) (ht : Sc P t) (hx : ρ x = ptr L.bV i) (hi : i < s.gD) : DV P ⟨d, .load t x, tt, st, af, g⟩ ρ w (sli (L.bw i) 0 s.gB (L.cw i)) := by
 obtain ⟨vp, vz, vm, h3, h4⟩ := h.v
 exact fm_load h3.v ht hx (by decide : 0 < 1) (tabV_at hi)
theorem rd_ldS (h : Rd L s X w) (ht : Sc P t) (hx : ρ x = ptr (L.bd i) (j * 4 + f)) (hi : i < s.gD) (hj : j < s.gB) (hf : f < 4) (hv : ([sli (L.bp (i * s.gB + j)) 0 s.gP (L.cp (i * s.gB + j)), eN (s.bl i j).nx, eI (s.bl i j).er, .bool (s.bl i j).bad] : List Value)[f]? = some v) : DV P ⟨d, .load t x, tt, st, af, g⟩ ρ w v := by
 obtain ⟨vp, vz, vm, h3, h4⟩ := h.v
 exact fm_load h3.b ht hx hi ((stR_at hj hf).trans hv)
theorem rd_ldW (h : Rd L s X w) (ht : Sc P t) (hx : ρ x = ptr (L.bw i) j) (hi : i < s.gD) (hj : j < s.gB) : DV P ⟨d, .load t x, tt, st, af, g⟩ ρ w (sli (L.bz (i * s.gB + j)) 0 s.gP s.gP) := by
 obtain ⟨vp, vz, vm, h3, h4⟩ := h.v
 exact fm_load h3.q ht hx hi (tabV_at hj)
theorem NS.kb_lt {s : NS} {d b : Nat} (hd : d < s.gD) (hb : b < s.gB) : d * s.gB + b < s.gD * s.gB := by
 have := Nat.mul_le_mul_right s.gB (show d + 1 ≤ s.gD from hd)
 rw [Nat.add_mul, Nat.one_mul] at this
 omega
theorem rd_ldD (h : Rd L s X w) (hY : ∀ k, k < w.heap.size → Y k → X k ∨ L.S k) (ht : Sc P t) (hx : ρ x = ptr (L.bp (i * s.gB + j)) f) (hi : i < s.gD) (hj : j < s.gB) (hf : f < s.gP) : Does P ⟨d, .load t x, tt, st, af, g⟩ ρ w fun u w' => Ps Y (Seq kB (s.dl (s.ix i j f)) u) w ∧ w = w' := by
 obtain ⟨vp, vz, vm, h3, h4⟩ := h.v
 exact (fm_load h3.p ht hx (NS.kb_lt hi hj) (tabV_at hf)).mono fun u w' h => by obtain ⟨rfl, rfl⟩ := h; exact ⟨(h4.imp fun _ h => h.d _ _ (NS.kb_lt hi hj) hf).less hY, rfl⟩
theorem rd_ldZ (h : Rd L s X w) (hY : ∀ k, k < w.heap.size → Y k → X k ∨ L.S k) (ht : Sc P t) (hx : ρ x = ptr (L.bz (i * s.gB + j)) f) (hi : i < s.gD) (hj : j < s.gB) (hf : f < s.gP) : Does P ⟨d, .load t x, tt, st, af, g⟩ ρ w fun u w' => Ps Y (Seq kI (s.nl (s.ix i j f)) u) w ∧ w = w' := by
 obtain ⟨vp, vz, vm, h3, h4⟩ := h.v
 exact (fm_load h3.z ht hx (NS.kb_lt hi hj) (tabV_at hf)).mono fun u w' h => by obtain ⟨rfl, rfl⟩ := h; exact ⟨(h4.imp fun _ h => h.z _ _ (NS.kb_lt hi hj) hf).less hY, rfl⟩
def RdW (L : RL) (s : NS) (X : Nat → Prop) (w : World) : Value → World → Prop := fun _ w' => Rd L s X w' ∧ Only L.S w w'
theorem Rd.mk_ (h : Rd L s X w) (ok : s'.Ok) (hg : s'.gD = s.gD ∧ s'.gB = s.gB) (hO : Only L.S w w') (hv : ∃ vp vz vm, RdO L s' vp vz vm w' ∧ Ps (fun k => X k ∨ L.S k) (RdR s' vp vz vm) w') : Rd L s' X w' where
 ok := ok
 lD := h.lD.trans hg.1.symm
 lK := by rw [hg.1, hg.2]; exact h.lK
 ty := h.ty
 id_ := by rw [hg.1]; exact h.id_
 ip := by rw [hg.1, hg.2]; exact h.ip
 iz := by rw [hg.1, hg.2]; exact h.iz
 lt := fun k hk => Nat.lt_of_lt_of_le (h.lt k hk) hO.size
 dis := h.dis
 v := hv
theorem only_S (hO : Only (Is1 b) w w') (hb : L.S b) : Only L.S w w' := hO.mono fun k _ t => by have : k = b := t; rw [this]; exact hb
theorem rd_ty (h : Rd L s X w) : (L.tN ≠ L.tU ∧ L.tN ≠ L.tV ∧ L.tN ≠ L.tB ∧ L.tN ≠ L.tW ∧ L.tN ≠ L.tP ∧ L.tN ≠ L.tZ) ∧ (L.tU ≠ L.tB ∧ L.tU ≠ L.tP ∧ L.tU ≠ L.tZ) ∧ (L.tV ≠ L.tB ∧ L.tV ≠ L.tP ∧ L.tV ≠ L.tZ) ∧ (L.tB ≠ L.tW ∧ L.tB ≠ L.tP ∧ L.tB ≠ L.tZ) ∧ (L.tW ≠ L.tP ∧ L.tW ≠ L.tZ) ∧ L.tP ≠ L.tZ := by
 have := h.ty
 simp only [List.nodup_cons, List.mem_cons, not_or, List.not_mem_nil, not_false_eq_true, and_true] at this
 obtain ⟨⟨a1, a2, a3, a4, a5, a6⟩, ⟨b1, b2, b3, b4, b5⟩, ⟨c1, c2, c3, c4⟩, ⟨d1, d2, d3⟩, ⟨e1, e2⟩, f1, _⟩ := this
 exact ⟨⟨a1, a2, a3, a4, a5, a6⟩, ⟨b2, b4, b5⟩, ⟨c1, c3, c4⟩, ⟨d1, d2, d3⟩, ⟨e1, e2⟩, f1⟩
theorem rd_st (h : Rd L s X w) (hz : TI P t 1 bytes z) (hx : ρ x = ptr L.bN i) (hy : ρ y = v) (hv : v.oneCell' = true) (hi : i < 10) (hc : ∀ vm, (refC L vm s).set i v = refC L vm s') (ok : s'.Ok)
  (hs : s'.gD = s.gD ∧ s'.gB = s.gB ∧ s'.gP = s.gP ∧ s'.dl = s.dl ∧ s'.nl = s.nl ∧ s'.bl = s.bl ∧ s'.mask = s.mask) : Does P ⟨d, .store t x y, tt, st, af, g⟩ ρ w (RdW L s' X w) := by
 obtain ⟨vp, vz, vm, h3, h4⟩ := h.v
 obtain ⟨e1, e2, e3, e4, e5, e6, e7⟩ := hs
 obtain ⟨r, hn⟩ := h3.n 0 (by decide)
 dsimp only at hn
 have hi' : i < (refC L vm s).length := hi
 refine (d_store hz hx hy hv hn (by rw [List.length_append]; omega) (List.set_append_left _ _ hi')).mono fun u w' h' => ?_
 obtain ⟨hA, hO⟩ := h'
 rw [hc vm] at hA
 have hS := only_S hO (L := L) RL.in_n
 obtain ⟨⟨a1, a2, a3, a4, a5, a6⟩, _⟩ := rd_ty h
 refine ⟨h.mk_ ok ⟨e1, e2⟩ hS ⟨vp, vz, vm, ⟨fun _ _ => ⟨r, hA⟩, ?_, ?_, ?_, ?_, ?_, ?_⟩, (h4.step hS fun k hk => .inr hk).imp fun w h => ⟨?_, ?_, ?_⟩⟩, hS⟩
 ·rw [e1, e2]; exact h3.u.other hn a1.symm hO
 ·rw [e1, e2]; exact h3.v.other hn a2.symm hO
 ·rw [e1]; exact (h3.b.other hn a3.symm hO).to fun j _ => by unfold RL.rb; rw [e2, e3, e6]
 ·rw [e1]; exact (h3.q.other hn a4.symm hO).to fun j _ => by unfold RL.rw_; rw [e2, e3]
 ·rw [e1, e2, e3]; exact h3.p.other hn a5.symm hO
 ·rw [e1, e2, e3]; exact h3.z.other hn a6.symm hO
 ·rw [e1, e2, e3, e4]; exact h.d
 ·rw [e1, e2, e3, e5]; exact h.z
 ·rw [e7]; exact h.m
theorem rd_stm {l : List UInt8} (h : Rd L s X w) (hY : ∀ k, k < w.heap.size → X k ∨ L.S k → Y k) (hz : TI P t 1 bytes z) (hx : ρ x = ptr L.bN 6) (hy : ρ y = v) (hl : Ps Y (Seq kB l v) w) (hn : l.length ≤ 1048576) : Does P ⟨d, .store t x y, tt, st, af, g⟩ ρ w (RdW L { s with mask := l } X w) := by
 obtain ⟨vp, vz, vm, h3, h4⟩ := h.v
 obtain ⟨r, hA0⟩ := h3.n 0 (by decide)
 dsimp only at hA0
 have hi' : 6 < (refC L vm s).length := by show 6 < 10; decide
 have hi2 : (refC L vm s).length = 10 := rfl
 refine (d_store hz hx hy (Seq.one hl) hA0 (by rw [List.length_append]; omega) (List.set_append_left _ _ hi')).mono fun u w' h' => ?_
 obtain ⟨hA, hO⟩ := h'
 have hS := only_S hO (L := L) RL.in_n
 obtain ⟨⟨a1, a2, a3, a4, a5, a6⟩, _⟩ := rd_ty h
 exact ⟨h.mk_ ⟨h.ok.d, h.ok.b, h.ok.p, h.ok.nx, h.ok.st, h.ok.dl, h.ok.nl, hn⟩ ⟨rfl, rfl⟩ hS ⟨vp, vz, v, ⟨fun _ _ => ⟨r, hA⟩, h3.u.other hA0 a1.symm hO, h3.v.other hA0 a2.symm hO, h3.b.other hA0 a3.symm hO, h3.q.other hA0 a4.symm hO, h3.p.other hA0 a5.symm hO, h3.z.other hA0 a6.symm hO⟩,
  ((h4.and (hl.less hY)).step hS fun k hk => .inr hk).imp fun w h => ⟨h.1.d, h.1.z, h.2⟩⟩, hS⟩
theorem ix_split {s : NS} {i j f k p : Nat} (hf : f < s.gP) (hp : p < s.gP) : k * s.gP + p = s.ix i j f ↔ k = i * s.gB + j ∧ p = f := by
 unfold NS.ix
 constructor
 ·intro h
  have h1 : (k * s.gP + p) / s.gP = k := by rw [Nat.mul_comm, Nat.mul_add_div (by omega), Nat.div_eq_of_lt hp, Nat.add_zero]
  have h2 : ((i * s.gB + j) * s.gP + f) / s.gP = i * s.gB + j := by rw [Nat.mul_comm _ s.gP, Nat.mul_add_div (by omega), Nat.div_eq_of_lt hf, Nat.add_zero]
  have h3 : k = i * s.gB + j := by rw [← h1, h, h2]
  subst h3
  exact ⟨rfl, by omega⟩
 ·rintro ⟨rfl, rfl⟩; rfl
theorem rd_stD {l : List UInt8} (h : Rd L s X w) (hY : ∀ k, k < w.heap.size → X k ∨ L.S k → Y k) (hz : TI P t 1 bytes z) (hx : ρ x = ptr (L.bp (i * s.gB + j)) f) (hy : ρ y = v) (hl : Ps Y (Seq kB l v) w) (hi : i < s.gD) (hj : j < s.gB) (hf : f < s.gP) (hn : l.length = 60) : Does P ⟨d, .store t x y, tt, st, af, g⟩ ρ w (RdW L (s.setD (s.ix i j f) l) X w) := by
 obtain ⟨vp, vz, vm, h3, h4⟩ := h.v
 have hk := NS.kb_lt hi hj
 obtain ⟨r, hA0⟩ := h3.p _ hk
 dsimp only at hA0
 refine (d_store hz hx hy (Seq.one hl) hA0 (by rw [List.length_append, tabV_len]; omega) (List.set_append_left _ _ (by rw [tabV_len]; exact hf))).mono fun u w' h' => ?_
 obtain ⟨hA, hO⟩ := h'
 have hS := only_S hO (L := L) (RL.in_p (by rw [h.lK]; exact hk))
 obtain ⟨⟨a1, a2, a3, a4, a5, a6⟩, ⟨b1, b2, b3⟩, ⟨c1, c2, c3⟩, ⟨d1, d2, d3⟩, ⟨e1, e2⟩, f1⟩ := rd_ty h
 refine ⟨h.mk_ ⟨h.ok.d, h.ok.b, h.ok.p, h.ok.nx, h.ok.st, fun k => by show (if k = s.ix i j f then l else s.dl k).length = 60; split; exact hn; exact h.ok.dl k, h.ok.nl, h.ok.ml⟩ ⟨rfl, rfl⟩ hS
  ⟨fun k p => if k = i * s.gB + j ∧ p = f then v else vp k p, vz, vm, ⟨h3.n.other hA0 a5 hO, h3.u.other hA0 b2 hO, h3.v.other hA0 c2 hO, h3.b.other hA0 d2 hO, h3.q.other hA0 e1 hO, ?_, h3.z.other hA0 f1.symm hO⟩, ((h4.and (hl.less hY)).step hS fun k hk => .inr hk).imp fun w h' => ⟨?_, h'.1.z, h'.1.m⟩⟩, hS⟩
 ·rw [tabV_set] at hA
  refine h3.p.put h.ip hk ?_ ?_ hA hO
  ·exact tabV_congr fun q _ => by simp
  ·intro k _ hne; exact tabV_congr fun q _ => by simp [hne]
 ·intro k p hk' hp
  have hp' : p < s.gP := hp
  show Seq kB (if k * s.gP + p = s.ix i j f then l else s.dl (k * s.gP + p)) (if k = i * s.gB + j ∧ p = f then v else vp k p) w
  by_cases e : k = i * s.gB + j ∧ p = f
  ·rw [if_pos e, if_pos ((ix_split hf hp').2 e)]; exact h'.2
  ·rw [if_neg e, if_neg (fun t => e ((ix_split hf hp').1 t))]; exact h'.1.d k p hk' hp
theorem rd_stZ {l : List Int} (h : Rd L s X w) (hY : ∀ k, k < w.heap.size → X k ∨ L.S k → Y k) (hz : TI P t 1 bytes z) (hx : ρ x = ptr (L.bz (i * s.gB + j)) f) (hy : ρ y = v) (hl : Ps Y (Seq kI l v) w) (hi : i < s.gD) (hj : j < s.gB) (hf : f < s.gP) (hn : l.length ≤ 1048576) : Does P ⟨d, .store t x y, tt, st, af, g⟩ ρ w (RdW L (s.setZ (s.ix i j f) l) X w) := by
 obtain ⟨vp, vz, vm, h3, h4⟩ := h.v
 have hk := NS.kb_lt hi hj
 obtain ⟨r, hA0⟩ := h3.z _ hk
 dsimp only at hA0
 refine (d_store hz hx hy (Seq.one hl) hA0 (by rw [List.length_append, tabV_len]; omega) (List.set_append_left _ _ (by rw [tabV_len]; exact hf))).mono fun u w' h' => ?_
 obtain ⟨hA, hO⟩ := h'
 have hS := only_S hO (L := L) (RL.in_z (by rw [h.lK]; exact hk))
 obtain ⟨⟨a1, a2, a3, a4, a5, a6⟩, ⟨b1, b2, b3⟩, ⟨c1, c2, c3⟩, ⟨d1, d2, d3⟩, ⟨e1, e2⟩, f1⟩ := rd_ty h
 refine ⟨h.mk_ ⟨h.ok.d, h.ok.b, h.ok.p, h.ok.nx, h.ok.st, h.ok.dl, fun k => by show (if k = s.ix i j f then l else s.nl k).length ≤ 1048576; split; exact hn; exact h.ok.nl k, h.ok.ml⟩ ⟨rfl, rfl⟩ hS
  ⟨vp, fun k p => if k = i * s.gB + j ∧ p = f then v else vz k p, vm, ⟨h3.n.other hA0 a6 hO, h3.u.other hA0 b3 hO, h3.v.other hA0 c3 hO, h3.b.other hA0 d3 hO, h3.q.other hA0 e2 hO, h3.p.other hA0 f1 hO, ?_⟩, ((h4.and (hl.less hY)).step hS fun k hk => .inr hk).imp fun w h' => ⟨h'.1.d, ?_, h'.1.m⟩⟩, hS⟩
 ·rw [tabV_set] at hA
  refine h3.z.put h.iz hk ?_ ?_ hA hO
  ·exact tabV_congr fun q _ => by simp
  ·intro k _ hne; exact tabV_congr fun q _ => by simp [hne]
 ·intro k p hk' hp
  have hp' : p < s.gP := hp
  show Seq kI (if k * s.gP + p = s.ix i j f then l else s.nl (k * s.gP + p)) (if k = i * s.gB + j ∧ p = f then v else vz k p) w
  by_cases e : k = i * s.gB + j ∧ p = f
  ·rw [if_pos e, if_pos ((ix_split hf hp').2 e)]; exact h'.2
  ·rw [if_neg e, if_neg (fun t => e ((ix_split hf hp').1 t))]; exact h'.1.z k p hk' hp
theorem rd_stS {x' : St} (h : Rd L s X w) (hz : TI P t 1 bytes z) (hx : ρ x = ptr (L.bd i) (j * 4 + f)) (hy : ρ y = v) (hv : v.oneCell' = true) (hi : i < s.gD) (hj : j < s.gB) (hf : f < 4)
  (hs : ∀ r : Value, ([r, eN (s.bl i j).nx, eI (s.bl i j).er, .bool (s.bl i j).bad] : List Value).set f v = [r, eN x'.nx, eI x'.er, .bool x'.bad]) (hn : x'.nx ≤ 8) : Does P ⟨d, .store t x y, tt, st, af, g⟩ ρ w (RdW L (s.setB i j x') X w) := by
 obtain ⟨vp, vz, vm, h3, h4⟩ := h.v
 obtain ⟨r, hA0⟩ := h3.b i hi
 have hlen : (L.rb s i).length = s.gB * 4 := stR_len _ _ _
 refine (d_store hz hx hy hv hA0 (by rw [List.length_append, hlen]; omega) (List.set_append_left _ _ (by rw [hlen]; omega))).mono fun u w' h' => ?_
 obtain ⟨hA, hO⟩ := h'
 have hS := only_S hO (L := L) (RL.in_d (by rw [h.lD]; exact hi))
 obtain ⟨⟨a1, a2, a3, a4, a5, a6⟩, ⟨b1, b2, b3⟩, ⟨c1, c2, c3⟩, ⟨d1, d2, d3⟩, ⟨e1, e2⟩, f1⟩ := rd_ty h
 refine ⟨h.mk_ ⟨h.ok.d, h.ok.b, h.ok.p, ?_, h.ok.st, h.ok.dl, h.ok.nl, h.ok.ml⟩ ⟨rfl, rfl⟩ hS ⟨vp, vz, vm, ⟨h3.n.other hA0 a3 hO, h3.u.other hA0 b1 hO, h3.v.other hA0 c1 hO, ?_, h3.q.other hA0 d1.symm hO, h3.p.other hA0 d2.symm hO, h3.z.other hA0 d3.symm hO⟩, (h4.step hS fun k hk => .inr hk).imp fun w h => ⟨h.d, h.z, h.m⟩⟩, hS⟩
 ·intro d' b'
  show ((if d' = i then (fun b' => if b' = j then x' else s.bl i b') else s.bl d') b').nx ≤ 8
  by_cases e : d' = i
  ·rw [if_pos e]
   show (if b' = j then x' else s.bl i b').nx ≤ 8
   by_cases e2 : b' = j
   ·rw [if_pos e2]; exact hn
   ·rw [if_neg e2]; exact h.ok.nx _ _
  ·rw [if_neg e]; exact h.ok.nx _ _
 ·unfold RL.rb at hA
  rw [stR_set hj hf (hs _)] at hA
  refine h3.b.put h.id_ hi ?_ ?_ hA hO
  ·show stR s.gB _ (if i = i then (fun b' => if b' = j then x' else s.bl i b') else s.bl i) = _
   rw [if_pos rfl]; rfl
  ·intro k _ hne
   show stR s.gB _ (if k = i then (fun b' => if b' = j then x' else s.bl i b') else s.bl k) = _
   rw [if_neg hne]; rfl
end
end Go.Proofs.YtpamdlnobekihaaF
namespace Go.Proofs.YtpamdlnobekihaaF
open Go Shelf YtpamdlnobekihaaS Ram
def pgH (la : List UInt8) (i : Nat) : List UInt8 := (la.drop (i * 24)).take 24
def pgW (la : List UInt8) (i : Nat) : List UInt8 := ((la.drop 4).drop (i * 28)).take 28
noncomputable def pgTo (la : List UInt8) (k : Nat) : List UInt8 := List.replicate 4 0 ++ ((List.range k).map fun i => encR (pgH la i)).flatten
noncomputable def pdTo (la : List UInt8) (k : Nat) : List UInt8 := ((List.range k).map fun i => decD (pgW la i)).flatten
noncomputable def pgE (la : List UInt8) : List UInt8 := if la.length = 48 then List.replicate 4 0 ++ encR (pgH la 0) ++ encR (pgH la 1) else []
noncomputable def pgD (la : List UInt8) : Nat × List UInt8 :=
 if la.length = 60 then (if 16 < onesN (la.take 4) then (0, []) else if decB (pgW la 0) = true ∧ decB (pgW la 1) = true then (2, decD (pgW la 0) ++ decD (pgW la 1)) else (1, [])) else (1, [])
def RPg (n : Nat) (l : List UInt8) (W : World) : Value → World → Prop := fun u w => ∃ a, u = .agg #[eN n, a] ∧ Ps (Old W.heap.size) (Seq kB l a) w ∧ Only No W w
def PgV (n : Nat) (l : List UInt8) (u : Value) (w : World) : Prop := ∃ a, u = .agg #[eN n, a] ∧ Seq kB l a w
end Go.Proofs.YtpamdlnobekihaaF
namespace Go.Proofs.YtpamdlnobekihaaF
open Go Shelf YtpamdlnobekihaaS Ram
def plTo (bl : List Int) (i : Nat) : List (Nat × Int) := (List.range i).map fun j => (j, bl.getD j 0)
def plL (bl : List Int) : List (Nat × Int) := plTo bl bl.length
def okN (C : Nat → Nat) : Nat → Nat
 | 0 => 0
 | n + 1 => if okN C n = n ∧ C n = 0 then n + 1 else okN C n
def runS {σ : Type} (T : Nat → σ) (C : Nat → Nat) (n : Nat) : σ := if okN C n = n then T n else T (okN C n + 1)
def runC (C : Nat → Nat) (n : Nat) : Nat := if okN C n = n then 0 else C (okN C n)
noncomputable def rowP (bl : List Int) (p : Int) (pl : Nat → List UInt8) (s : NS) : Nat → NS
 | 0 => s
 | k + 1 => (rowP bl p pl s k).prog (k : Nat) (bl.getD k 0) p (pgE (pl k))
noncomputable def rowPC (bl : List Int) (p : Int) (pl : Nat → List UInt8) (s : NS) (k : Nat) : Nat := (rowP bl p pl s k).progR (k : Nat) (bl.getD k 0) p (pgE (pl k))
def rowE (bl : List Int) (s : NS) : Nat → NS
 | 0 => s
 | k + 1 => (rowE bl s k).erase (k : Nat) (bl.getD k 0)
def rowEC (bl : List Int) (s : NS) (k : Nat) : Nat := (rowE bl s k).eraseR (k : Nat) (bl.getD k 0)
def rowR (bl : List Int) (p : Int) (s : NS) : Nat → NS
 | 0 => s
 | k + 1 => (rowR bl p s k).ask ((rowR bl p s k).readOk (k : Nat) (bl.getD k 0) p)
def rowRC (bl : List Int) (p : Int) (s : NS) (k : Nat) : Nat := (rowR bl p s k).askR ((rowR bl p s k).readOk (k : Nat) (bl.getD k 0) p)
def rowRL (bl : List Int) (p : Int) (s : NS) (k : Nat) : List UInt8 := (rowR bl p s k).readL (k : Nat) (bl.getD k 0) p
def rowDo (g n : Nat) (T : Nat → NS) (C : Nat → Nat) : NS := if n = g then runS T C n else T 0
def rowDoC (g n : Nat) (C : Nat → Nat) : Nat := if n = g then runC C n else 1
noncomputable def rowWS (s : NS) (bl : List Int) (p : Int) (pl : Nat → List UInt8) (n : Nat) : NS := if n = bl.length then rowDo s.gD bl.length (rowP bl p pl s) (rowPC bl p pl s) else s
noncomputable def rowWC (s : NS) (bl : List Int) (p : Int) (pl : Nat → List UInt8) (n : Nat) : Nat := if n = bl.length then rowDoC s.gD bl.length (rowPC bl p pl s) else 1
def eG (x : Nat × Value) : List Value := [eN x.1, x.2]
def pgRow (st : Nat → Nat) (vs : List Value) : List (Nat × Value) := (List.range vs.length).map fun i => (st i, vs.getD i undef)
end Go.Proofs.YtpamdlnobekihaaF
namespace Ram
open Go.Proofs.YtpamdlnobekihaaF (shlB shrB)
def xorL (a b : List UInt8) : List UInt8 := tab 24 (fun k => a.getD k 0 ^^^ b.getD k 0)
def xorTo (a b : List UInt8) (i : Nat) : List UInt8 := tab 24 (fun k => if k < i then a.getD k 0 ^^^ b.getD k 0 else 0)
def genQ : List UInt8 := [1, 0, 1, 1, 0, 1, 1, 0, 0, 1, 1, 0, 1, 1, 1, 1, 1, 1, 1, 1, 1, 1, 0, 0, 1, 0, 0, 1, 1, 1, 1, 1, 1, 0, 0, 0, 0, 1, 0, 1, 1, 1, 1, 0, 0, 0, 1, 1, 1, 1, 0, 1, 1, 0, 0, 1, 1, 0, 1, 0, 1, 0, 0, 0, 1, 1, 0, 1, 1, 0, 0, 1, 0, 1, 0, 1, 1, 0, 1, 1, 0, 0, 0, 1, 0, 1, 1, 0, 0, 1, 1, 0, 0, 0, 1, 1, 1, 0, 1, 0, 1, 1, 1, 0, 1, 0, 0, 0, 0, 1, 1, 1, 1, 0, 1, 1, 1, 0, 1, 0, 1, 1, 1, 1, 1, 1, 0, 1, 1, 0, 0, 0, 0, 1, 1, 1, 1, 0, 0, 0, 0, 1, 1, 0, 0, 1, 1, 1, 1, 0, 1, 0, 0, 1, 0, 0, 1, 0, 0, 1, 0, 1, 0, 1, 0, 1, 0, 0, 1, 0, 0, 0, 1, 1, 1, 1, 1, 0, 0, 0, 1, 1, 0, 0, 1, 1, 1, 1, 1, 0, 0, 1, 1, 1, 0, 0, 0, 0, 1, 0, 1, 0, 1, 0, 1, 0, 0, 1, 0, 1, 1, 1, 1, 0, 0, 0, 0, 1, 0, 1, 0, 0, 1, 1]
def synL (L : List Nat) : List UInt8 := tab 8 (fun i => syn L (i + 1))
def btTo (w : List UInt8) (i : Nat) : List UInt8 := tab 224 (fun k => if k < i then (if bt w k then 1 else 0) else 0)
end Ram
namespace Go.Proofs.YtpamdlnobekihaaF
open Go Shelf YtpamdlnobekihaaS Ram
def partP (a n : Nat) (P : List Nat) : List Nat := (P.filter fun k => decide (8 * a ≤ k ∧ k < 8 * (a + n))).map (· - 8 * a)
def ffTo (n i : Nat) : List UInt8 := tab n (fun k => if k < i then 255 else 0)
def hfL (l : List Int) : List Int := l.map fun x => IntKind.i64.wrap (Int.tdiv x 224)
def noiseL (l : List Int) (most : Nat) : List Nat := (placesL l 224 most).map (32 + ·) ++ (placesL (hfL l) 224 most).map (256 + ·)
def moveTo (L : List Nat) (o i : Nat) : List Nat := (L.take i).map (o + ·) ++ L.drop i
end Go.Proofs.YtpamdlnobekihaaF
namespace Go.Proofs.YtpamdlnobekihaaF
open Go Shelf YtpamdlnobekihaaS Ram
structure RowV (s : NS) (D B Q k : Nat) (m : List UInt8) (x : Bool) (o w : Int) (c nx : Nat → Nat) (f : Nat → Nat → List UInt8) (z : Nat → Nat → List Int) : Prop where
 ct : Ctl s D B Q k m x o w
 v : ∀ d, d < D → ∃ er, Bv s d (c d) (nx d) er false (f d) (z d)
def upn : Nat → Int → Int
 | 0, o => o
 | i + 1, o => up1 (upn i o)
def plD (la : List UInt8) (n i : Nat) : List UInt8 := ((dataL la (48 * n)).drop (48 * i)).take 48
def RF.isv (O : Nat → Prop) (g : (Nat → Value) → Value) : RF O := RF.mk2 (fun v u _ _ _ => u = g v) (fun h _ => h)
def RF.pl (O X : Nat → Prop) (n : Nat) (f : Nat → List UInt8) (hOX : ∀ k, O k → X k) : RF O :=
 RF.mk2 (fun _ u _ _ w => ∃ vs, vs.length = n ∧ Ps X (Seq (kS eV) vs u) w ∧ Ps X (Fam kB n f vs) w) (fun hp ho => by obtain ⟨vs, h1, h2, h3⟩ := hp; exact ⟨vs, h1, h2.step ho hOX, h3.step ho hOX⟩)
def bl6 : List Int := [0, 1, 2, 3, 4, 5]
def OrdR (s : NS) (nx wr : Nat) (lb : List UInt8) : Prop := ∃ o, RowV s 6 8 4 0 [] false o (wr : Int) (fun d => d) (fun _ => nx) (fun j q => if q < nx then pgE (plD lb 6 j) else onesW) (fun _ _ => [])
end Go.Proofs.YtpamdlnobekihaaF
namespace Go.Proofs.YtpamdlnobekihaaF
open Go Shelf YtpamdlnobekihaaS
def Nodef (p : World → Prop) : Prop := ∀ w w', (∀ k, k < w.heap.size → w'.heap[k]? = w.heap[k]? ∨ ∃ q, w.heap[k]? = some (.deferred q)) → p w → p w'
theorem made_one2 : (madeCells (Value.agg #[Value.int .i64 0, Value.int .i64 0]).cells (1 * 2)).toList = [eN 0, eN 0] := by
 unfold madeCells
 rw [Array.toList_map, Array.toList_range]
 show List.map _ [0, 1] = _
 rfl
theorem d_indexA {P : Program} {d : Option Tmp} {tt : TypeId} {s : String} {af : Array Edge} {g : Option (Nat × Bool)} {ρ : Operand → Value} {w : World} {t e : TypeId} {x y : Operand} {bytes : Nat} {z u : Value} {k : IntKind} {i c : Int} {v : Int × Int} {X : Nat → Prop} (ht : P.underlying t = some (.array 2 e)) (hz : TI P e 1 bytes z) (hx : ρ x = u) (hA : Ps X (At (kA 2 eQ) v u) w) (hy : ρ y = .int k i)
  (h0 : 0 ≤ i) (h1 : i < 2) (hv : (eQ v)[i.toNat]? = some (eI c)) : Does P ⟨d, .indexAddr t x y, tt, s, af, g⟩ ρ w fun u' w' => Ps X (At kI c u') w ∧ w = w' := by
 obtain ⟨p, hu, _, hc⟩ := hA.now
 refine Does.of_value (v := .pointer (some (p.add (i.toNat * 1)))) (w' := w) (by simp) ?_ ⟨?_, rfl⟩
 ·subst hu
  simp [execOp, Instr.indexAt, Instr.sureAddr, hx, hy, asIntOf, run_underlying ht, hz.size, go_sem, h0, h1]
 ·refine hA.imp (fun w2 h2 => ?_)
  obtain ⟨p', hu', _, hc'⟩ := h2
  rw [hu] at hu'
  injection hu' with hu'
  injection hu' with hu'
  subst hu'
  exact ⟨_, rfl, by rw [Nat.mul_one]; exact hc' _ _ hv⟩
section
variable {e : TypeId} {bo : Option Nat} {u : Value} {w : World} {X : Nat → Prop} {n : Nat} {xs ys : List (Int × Int)} {cs : List Value}
theorem flat_len : ∀ xs : List (Int × Int), (xs.flatMap eQ).length = xs.length * 2
 | [] => rfl
 | x :: xs => by rw [List.flatMap_cons, List.length_append, flat_len xs, List.length_cons]; show 2 + _ = _; omega
theorem flat_at : ∀ (xs : List (Int × Int)) (i j : Nat) (x : Int × Int) (v : Value), xs[i]? = some x → (eQ x)[j]? = some v → (xs.flatMap eQ)[i * 2 + j]? = some v
 | [], i, j, x, v, h, _ => by simp at h
 | y :: xs, 0, j, x, v, h, hv => by
  have h : y = x := by simpa using h
  subst h
  have := (List.getElem?_eq_some_iff.1 hv).1
  rw [List.flatMap_cons, List.getElem?_append_left (by omega), Nat.zero_mul, Nat.zero_add]
  exact hv
 | y :: xs, i + 1, j, x, v, h, hv => by
  have h : xs[i]? = some x := by simpa using h
  rw [List.flatMap_cons, List.getElem?_append_right (by show 2 ≤ _; omega)]
  rw [show (i + 1) * 2 + j - (eQ y).length = i * 2 + j by show _ - 2 = _; omega]
  exact flat_at xs i j x v h hv
theorem Ow.seqA (h : Ow e 2 bo u n (xs.flatMap eQ) w) (hX : ∀ b, bo = some b → ¬ X b) : Ps X (Seq (kA 2 eQ) xs u) w := by
 rcases h with ⟨h1, h2, h3, h4⟩ | ⟨b, cap, rest, h1, h2, h3, h4, h5, h6⟩
 ·have := flat_len xs
  rw [h4] at this
  have : xs = [] := List.eq_nil_of_length_eq_zero (by simp at this; omega)
  subst this; subst h2
  exact Ps.mk0 fun w => ⟨none, 0, rfl, Nat.le_refl _, fun i x h => by simp at h⟩
 ·have hn : xs.length = n := by rw [flat_len] at h5; omega
  subst h2; subst hn
  refine (h4.ps fun w' h' => ?_).less (fun k _ hk e => hX b h1 (e ▸ hk))
  refine ⟨_, _, rfl, h3, fun i x hi => ⟨_, rfl, rfl, fun j v hj => ?_⟩⟩
  rw [add0]
  show w'.cell? ((⟨b, 0 + i * 2, none⟩ : Addr).add j) = some v
  rw [add0]
  refine h'.cell ?_
  have h7 := flat_at xs i j x v hi hj
  rw [Nat.zero_add, List.getElem?_append_left (List.getElem?_eq_some_iff.1 h7).1]
  exact h7
theorem ow_app2 (h : Ow e 2 bo u (xs.length + n) (xs.flatMap eQ ++ cs) w) (hn : ys.length = n) (hc : cs = ys.flatMap eQ) : Ow e 2 bo u (xs ++ ys).length ((xs ++ ys).flatMap eQ) w := by
 rw [List.length_append, List.flatMap_append, hn, ← hc]; exact h
theorem one_eQ : ∀ (ys : List (Int × Int)), ∀ v ∈ ys.flatMap eQ, v.oneCell' = true := fun ys v hv => by
 obtain ⟨x, _, hx⟩ := List.mem_flatMap.1 hv
 rcases List.mem_cons.1 hx with h | hx
 ·rw [h]; rfl
 ·rw [List.mem_singleton.1 hx]; rfl
end
end Go.Proofs.YtpamdlnobekihaaF
namespace Go.Proofs.YtpamdlnobekihaaF
open Go Shelf YtpamdlnobekihaaS Ram
def RF.gr (O : Nat → Prop) (e : TypeId) (sz : Nat) (bo0 : Option Nat) (n : Nat) (cs : List Value) (n0 : Nat) : RF O :=
 ⟨fun _ u _ _ w => ∃ bo, Ow e sz bo u n cs w ∧ Fr bo bo0 n0, fun h ho => by obtain ⟨bo, h1, h2⟩ := h; exact ⟨bo, h1.step0 ho, h2⟩, true, fun h => by cases h⟩
section
variable {bo bo' bo2 : Option Nat} {n b : Nat} {X X' Y : Nat → Prop} {w : World} {e e' : TypeId} {sz : Nat} {u : Value} {cs cs' : List Value}
theorem xx_fr (q : Fr bo' bo n) (h : ∀ k, bo = some k → X k) : ∀ k, k < n → Orq bo' X k → X k := fun k hk t => t.elim (fun e => (q k e).elim (h k) (fun e2 => by omega)) id
theorem ow_ne (h : Ow e sz bo u n cs w) (hA : Arr e' b cs' w) (he : e ≠ e') : ∀ x, bo = some x → ¬ x = b := fun x hx => by
 rcases h with ⟨h1, _⟩ | ⟨b', cap, rest, h1, h2, h3, h4, _⟩
 ·rw [h1] at hx; cases hx
 ·rw [h1] at hx
  have := Option.some.inj hx
  subst this
  exact arr_ne h4 hA he
theorem xs_id : ∀ k, X k → Orq bo' X k := fun _ h => .inr h
theorem xs_b (t : ∀ k, X' k → Orq bo' X k) : ∀ k, Or1 b X' k → Orq bo' (Or1 b X) k := fun k h => h.elim (fun e => .inr (.inl e)) fun h => (t k h).elim .inl fun h => .inr (.inr h)
theorem xs_q (t : ∀ k, X' k → Orq bo' X k) : ∀ k, Orq bo2 X' k → Orq bo' (Orq bo2 X) k := fun k h => h.elim (fun e => .inr (.inl e)) fun h => (t k h).elim .inl fun h => .inr (.inr h)
theorem xs_row (t : ∀ k, X' k → Orq bo' X k) : ∀ k, Orq bo' X' k → Orq bo' (Orq bo X) k := fun k h => h.elim .inl fun h => (t k h).elim .inl fun h => .inr (.inr h)
theorem xs_mk' (t : ∀ k, X' k → X k) : ∀ k, Or1 b X' k → Or1 b X k := fun k h => h.imp id (t k)
theorem xs_end (t : ∀ k, X' k → X k) : ∀ k, k < n → X' k → X k := fun k _ h => t k h
theorem qtr2 {base : World} (h : Fr bo' bo w.heap.size) (q : Fr bo bo2 base.heap.size) (hs : base.heap.size ≤ w.heap.size) : Fr bo' bo2 base.heap.size := qtr h q hs
end
def eR (v : Value) : List Value := [v, eN 0, eN 0, .bool false]
theorem made_bk : (madeCells (Value.agg #[Value.slice none 0 0, Value.int .i64 0, Value.int .i64 0, Value.bool false]).cells (1 * 4)).toList = [Value.slice none 0 0, Value.int .i64 0, Value.int .i64 0, Value.bool false] := by
 unfold madeCells
 rw [Array.toList_map, Array.toList_range]
 show List.map _ [0, 1, 2, 3] = _
 rfl
section
variable {e : TypeId} {bo : Option Nat} {u : Value} {w : World} {n : Nat} {xs ys : List Value} {cs : List Value}
theorem one_eR {a : Value} (h : a.oneCell' = true) : ∀ v ∈ [a, eN 0, eN 0, Value.bool false], v.oneCell' = true := fun v hv => by
 rcases List.mem_cons.1 hv with h' | hx
 ·rw [h']; exact h
 rcases List.mem_cons.1 hx with h' | hx
 ·rw [h']; rfl
 rcases List.mem_cons.1 hx with h' | hx
 ·rw [h']; rfl
 ·rw [List.mem_singleton.1 hx]; rfl
theorem ow_appR (h : Ow e 4 bo u (xs.length + n) (xs.flatMap eR ++ cs) w) (hn : ys.length = n) (hc : cs = ys.flatMap eR) : Ow e 4 bo u (xs ++ ys).length ((xs ++ ys).flatMap eR) w := by
 rw [List.length_append, List.flatMap_append, hn, ← hc]; exact h
theorem flatR_stR {f : Nat → Value} (h : ∀ i, i < n → xs.getD i undef = f i) (hl : xs.length = n) : xs.flatMap eR = stR n f (fun _ => St0) := by
 induction n generalizing xs with
 | zero => have : xs = [] := List.eq_nil_of_length_eq_zero hl; subst this; rfl
 | succ n ih =>
  have e1 : xs = xs.take n ++ [xs.getD n undef] := by
   conv => lhs; rw [← List.take_of_length_le (l := xs) (i := n + 1) (by omega)]
   rw [List.take_succ_eq_append_getElem (by omega), List.getD_eq_getElem?_getD, List.getElem?_eq_getElem (by omega)]
   rfl
  have hl2 : (xs.take n).length = n := by rw [List.length_take]; omega
  have h2 := ih (xs := xs.take n) (fun i hi => by
   rw [← h i (by omega), List.getD_eq_getElem?_getD, List.getD_eq_getElem?_getD, List.getElem?_take_of_lt hi]) hl2
  rw [e1, List.flatMap_append, h2, h n (by omega)]
  rfl
end
end Go.Proofs.YtpamdlnobekihaaF
