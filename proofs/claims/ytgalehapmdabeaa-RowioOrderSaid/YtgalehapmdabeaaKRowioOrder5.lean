/- Part of the proof of the law RowioOrder, for all its inputs. -/
import Derived.Test.YtgalehapmdabeaaKRowioOrder4
set_option linter.unusedVariables false
set_option linter.unusedSimpArgs false
set_option maxRecDepth 20000
set_option maxHeartbeats 4000000
namespace Go.Proofs.YtgalehapmdabeaaF
open Go Shelf YtgalehapmdabeaaS Ram
theorem erase_ok (L : NL) (s : NS) {X : Nat → Prop} (W : World) (hN : Nd L s X W) (d b : Int) (hX : ∀ k, X k → k < W.heap.size) :
    CW Try.prog 61 #[(ptr L.bN 0), (eI d), (eI b)] W (Rt (fun u w => u = eN (s.eraseR d b) ∧ Nd L (s.erase d b) X w ∧ Only L.S W w)) := by
 have oW : Only L.S W W := Only.refl _ _
 refine enter (al := [(ptr L.bN 0), (eI d), (eI b)]) (k := 75) (l := ([(ptr L.bN 0), (eI d), (eI b)] ++ (us 75))) Try.func61 rfl Try.ntmps61 rfl rfl ?_
 refine wQ (pL ?_)
 refine wO (d_box rfl rfl) ?_
 rintro _ w11 ⟨nbx, rfl, g12, a13, o14⟩
 have g_oW_nbx : W.heap.size ≤ nbx := Nat.le_trans oW.size g12
 replace hN := hN.new o14 g12
 replace oW := oW.tail0 o14
 refine wI (d_assign rfl) ?_
 refine wD (tN (wQ (wQ ?_)))
 by_cases k0 : (s.there d b) = true
 ·
  obtain ⟨hd0, hd1, hb0, hb1⟩ := NS.there_of k0
  obtain ⟨dn, rfl⟩ := Int.eq_ofNat_of_zero_le hd0
  replace hd1 : dn < s.gD := Int.ofNat_lt.1 hd1
  refine wp_eq (l' := ([(ptr L.bN 0), (eN dn), (eI b), (ptr nbx 0), undef, undef, (eN 0)] ++ (us 71))) rfl ?_
  obtain ⟨bn, rfl⟩ := Int.eq_ofNat_of_zero_le hb0
  replace hb1 : bn < s.gB := Int.ofNat_lt.1 hb1
  refine wp_eq (l' := ([(ptr L.bN 0), (eN dn), (eN bn), (ptr nbx 0), undef, undef, (eN 0)] ++ (us 71))) rfl ?_
  by_cases k1 : (s.isBad (dn : Int) (bn : Int)) = true
  ·
   refine drawnT (O := (Or1 nbx (Ors L.S No))) (n := 14) 12 [0, 0, 0, 0, 14, 30, 62, 62, 62, 510, 1022, 2046, 4095, 8191] [(0, 11), (1, 12), (2, 13), (3, 14), (4, 15), (5, 16), (6, 17), (7, 18), (8, 19), (9, 20), (10, 21), (11, 22), (12, 23), (13, 7)] [(0, 11), (1, 12), (2, 13), (3, 14), (4, 15), (5, 16), (6, 17), (7, 18), (8, 19), (9, 20), (10, 21), (11, 22)] [0, 1, 2, 3, 4, 5, 6, 7, 8, 9, 10, 11] [] (fun i_ => ([RF.is (Or1 nbx (Ors L.S No)) (ptr L.bN 0), RF.is (Or1 nbx (Ors L.S No)) (ptr L.bN 0), RF.is (Or1 nbx (Ors L.S No)) (eN dn), RF.is (Or1 nbx (Ors L.S No)) (eN bn), RF.is (Or1 nbx (Ors L.S No)) vT, RF.is (Or1 nbx (Ors L.S No)) vT, RF.is (Or1 nbx (Ors L.S No)) (ptr L.bN 0), RF.is (Or1 nbx (Ors L.S No)) (eN dn), RF.is (Or1 nbx (Ors L.S No)) (eN bn), RF.is (Or1 nbx (Ors L.S No)) vT, RF.is (Or1 nbx (Ors L.S No)) vF, RF.is (Or1 nbx (Ors L.S No)) vF] : List (RF (Or1 nbx (Ors L.S No)))).getD i_ (RF.any (Or1 nbx (Ors L.S No)))) (fun _ w_ => Arr 44 nbx [(ptr L.bN 0)] w_ ∧ Nd L s (Or1 nbx X) w_) (fun v15 => ([(ptr L.bN 0), (eN dn), (eN bn), (ptr nbx 0), undef, undef, (eN 0), (v15 13), undef, undef, undef, (v15 0), (v15 1), (v15 2), (v15 3), (v15 4), (v15 5), (v15 6), (v15 7), (v15 8), (v15 9), (v15 10), (v15 11), (v15 12)] ++ (us 54))) (fun v15 => ([(ptr L.bN 0), (eN dn), (eN bn), (ptr nbx 0), undef, undef, (eN 0), undef, undef, undef, undef, (v15 0), (v15 1), (v15 2), (v15 3), (v15 4), (v15 5), (v15 6), (v15 7), (v15 8), (v15 9), (v15 10), (v15 11)] ++ (us 55))) s_mx kr rfl (by decide) (by rfl) kr kr kr (by rfl) (fun v_ => by kernel_rfl) (fun v_ => by kernel_rfl) (fun _ => fun w_ w2_ h ho => by obtain ⟨r_a13, r_hN⟩ := h; exact ⟨r_a13.step0 ho, r_hN.step0 ho⟩) ⟨a13, hN⟩ ?_ ?_ ?_
   ·
    refine ls_cons ?_ ?_
    ·
     intro v15 lo hi w_ k_ hO hd _ _ hk_ _ hR hold
     obtain ⟨r_a13, r_hN⟩ := hR
     clear hd hold
     refine ⟨_, rfl, gd rfl ?_⟩
     exact Does.is (d_load (v := (ptr L.bN 0)) ⟨_, Try.underlying44, rfl⟩ rfl r_a13 rfl)
    refine ls_cons ?_ ?_
    ·
     intro v15 lo hi w_ k_ hO hd _ _ hk_ _ hR hold
     obtain ⟨r_a13, r_hN⟩ := hR
     clear hd hold
     refine ⟨_, rfl, gd rfl ?_⟩
     exact Does.is (d_load (v := (ptr L.bN 0)) ⟨_, Try.underlying44, rfl⟩ rfl r_a13 rfl)
    refine ls_cons ?_ ?_
    ·
     intro v15 lo hi w_ k_ hO hd _ _ hk_ _ hR hold
     obtain ⟨r_a13, r_hN⟩ := hR
     clear hd hold
     refine ⟨_, rfl, gd rfl ?_⟩
     exact Does.is (d_move rfl)
    refine ls_cons ?_ ?_
    ·
     intro v15 lo hi w_ k_ hO hd _ _ hk_ _ hR hold
     obtain ⟨r_a13, r_hN⟩ := hR
     clear hd hold
     refine ⟨_, rfl, gd rfl ?_⟩
     exact Does.is (d_move rfl)
    refine ls_cons ?_ ?_
    ·
     intro v15 lo hi w_ k_ hO hd _ _ hk_ _ hR hold
     obtain ⟨r_a13, r_hN⟩ := hR
     have e1 : v15 1 = (ptr L.bN 0) := hd 1 kr
     have e2 : v15 2 = (eN dn) := hd 2 kr
     have e3 : v15 3 = (eN bn) := hd 3 kr
     clear hd hold
     refine ⟨_, rfl, gd rfl ?_⟩
     exact d_call (xl := [.tmp 12, .tmp 13, .tmp 14]) (al := [(ptr L.bN 0), (eN dn), (eN bn)]) Try.func52 kr rfl (show ([(v15 1), (v15 2), (v15 3)] : List Value) = [(ptr L.bN 0), (eN dn), (eN bn)] from by rw [e1, e2, e3]) rfl (there_ok L s _ r_hN (r := true) (dn : Int) (bn : Int) k0)
    refine ls_cons ?_ ?_
    ·
     intro v15 lo hi w_ k_ hO hd _ _ hk_ _ hR hold
     obtain ⟨r_a13, r_hN⟩ := hR
     have e4 : v15 4 = vT := hd 4 kr
     clear hd hold
     refine ⟨_, rfl, gd rfl ?_⟩
     exact Does.is (d_move (v := vT) e4)
    refine ls_cons ?_ ?_
    ·
     intro v15 lo hi w_ k_ hO hd _ _ hk_ _ hR hold
     obtain ⟨r_a13, r_hN⟩ := hR
     have e5 : v15 5 = vT := hd 5 kr
     clear hd hold
     refine ⟨_, rfl, gd_on rfl rfl rfl (nb rfl) e5 ?_⟩
     exact Does.is (d_load (v := (ptr L.bN 0)) ⟨_, Try.underlying44, rfl⟩ rfl r_a13 rfl)
    refine ls_cons ?_ ?_
    ·
     intro v15 lo hi w_ k_ hO hd _ _ hk_ _ hR hold
     obtain ⟨r_a13, r_hN⟩ := hR
     have e5 : v15 5 = vT := hd 5 kr
     clear hd hold
     refine ⟨_, rfl, gd_on rfl rfl rfl (nb rfl) e5 ?_⟩
     exact Does.is (d_move rfl)
    refine ls_cons ?_ ?_
    ·
     intro v15 lo hi w_ k_ hO hd _ _ hk_ _ hR hold
     obtain ⟨r_a13, r_hN⟩ := hR
     have e5 : v15 5 = vT := hd 5 kr
     clear hd hold
     refine ⟨_, rfl, gd_on rfl rfl rfl (nb rfl) e5 ?_⟩
     exact Does.is (d_move rfl)
    refine ls_cons ?_ ?_
    ·
     intro v15 lo hi w_ k_ hO hd _ _ hk_ _ hR hold
     obtain ⟨r_a13, r_hN⟩ := hR
     have e5 : v15 5 = vT := hd 5 kr
     have e6 : v15 6 = (ptr L.bN 0) := hd 6 kr
     have e7 : v15 7 = (eN dn) := hd 7 kr
     have e8 : v15 8 = (eN bn) := hd 8 kr
     clear hd hold
     refine ⟨_, rfl, gd_on rfl rfl rfl (nb rfl) e5 ?_⟩
     exact d_call (xl := [.tmp 17, .tmp 18, .tmp 19]) (al := [(ptr L.bN 0), (eN dn), (eN bn)]) Try.func79 kr rfl (show ([(v15 6), (v15 7), (v15 8)] : List Value) = [(ptr L.bN 0), (eN dn), (eN bn)] from by rw [e6, e7, e8]) rfl (isBad_ok L s _ r_hN (r := true) (dn : Int) (bn : Int) k1)
    refine ls_cons ?_ ?_
    ·
     intro v15 lo hi w_ k_ hO hd _ _ hk_ _ hR hold
     obtain ⟨r_a13, r_hN⟩ := hR
     have e5 : v15 5 = vT := hd 5 kr
     have e9 : v15 9 = vT := hd 9 kr
     clear hd hold
     refine ⟨_, rfl, gd_on rfl rfl rfl (nb rfl) e5 ?_⟩
     exact Does.is (d_not e9 rfl)
    refine ls_cons ?_ ?_
    ·
     intro v15 lo hi w_ k_ hO hd _ _ hk_ _ hR hold
     obtain ⟨r_a13, r_hN⟩ := hR
     have e10 : v15 10 = vF := hd 10 kr
     have e5 : v15 5 = vT := hd 5 kr
     clear hd hold
     refine ⟨_, rfl, gd rfl ?_⟩
     exact Does.is (d_pick (b := true) (v := vF) e5 e10)
    exact ls_nil
   ·
    exact ms_nil
   intro v15 lo_ hi_ w16 o17 hd iv_ hR
   have e0 : v15 0 = (ptr L.bN 0) := hd 0 (by decide)
   have e1 : v15 1 = (ptr L.bN 0) := hd 1 (by decide)
   have e2 : v15 2 = (eN dn) := hd 2 (by decide)
   have e3 : v15 3 = (eN bn) := hd 3 (by decide)
   have e4 : v15 4 = vT := hd 4 (by decide)
   have e5 : v15 5 = vT := hd 5 (by decide)
   have e6 : v15 6 = (ptr L.bN 0) := hd 6 (by decide)
   have e7 : v15 7 = (eN dn) := hd 7 (by decide)
   have e8 : v15 8 = (eN bn) := hd 8 (by decide)
   have e9 : v15 9 = vT := hd 9 (by decide)
   have e10 : v15 10 = vF := hd 10 (by decide)
   have e11 : v15 11 = vF := hd 11 (by decide)
   clear hd iv_ lo_ hi_
   refine wpL.flat ([(ptr L.bN 0), (eN dn), (eN bn), (ptr nbx 0), undef, undef, (eN 0), undef, undef, undef, undef, (ptr L.bN 0), (ptr L.bN 0), (eN dn), (eN bn), vT, vT, (ptr L.bN 0), (eN dn), (eN bn), vT, vF, vF] ++ (us 55)) (by rw [e0, e1, e2, e3, e4, e5, e6, e7, e8, e9, e10, e11] <;> rfl) ?_
   clear e0 e1 e2 e3 e4 e5 e6 e7 e8 e9 e10 e11
   obtain ⟨xr_a13, xr_hN⟩ := hR
   replace a13 : Arr 44 nbx [(ptr L.bN 0)] w16 := xr_a13
   replace hN := xr_hN
   clear xr_a13 xr_hN
   replace oW := oW.tail o17 (tl_new g_oW_nbx (tl_sin (fun k h => h) tl_no))
   refine wO (d_call (xl := [.tmp 11, .tmp 22]) (al := [(ptr L.bN 0), vF]) Try.func80 kr rfl rfl rfl (ask_ok L s _ hN (g := (s.eraseOk (dn : Int) (bn : Int))) false (by simp [NS.eraseOk, *]))) ?_
   rintro _ w18 ⟨rfl, a20, o19⟩
   replace a13 := a13.step o19 (hN.dis _ in1)
   replace oW := oW.tail o19 (fun k _ e => (fun k h => h) k e)
   replace hN := a20
   refine wI (d_assign rfl) ?_
   refine wF ([(ptr L.bN 0), (eN dn), (eN bn), (ptr nbx 0), undef, undef, (eN 0), (eN (s.askR (s.eraseOk (dn : Int) (bn : Int)))), undef, undef, undef, (ptr L.bN 0), (ptr L.bN 0), (eN dn), (eN bn), vT, vT, (ptr L.bN 0), (eN dn), (eN bn), vT, vF, vF, (eN (s.askR (s.eraseOk (dn : Int) (bn : Int))))] ++ (us 54)) ?_
   refine wD (tN (wQ (pL ?_)))
   refine wI (d_move rfl) ?_
   refine wI (n_neq (a := (s.askR (s.eraseOk (dn : Int) (bn : Int)))) (b := 0) rfl rfl rfl) ?_
   refine wD (tN ?_)
   refine cond_un rfl (fun c0 => ?_) (fun c0 => ?_)
   ·
    refine wQ (pL ?_)
    refine wI (d_move rfl) ?_
    refine wI (d_assign rfl) ?_
    refine wD (tN ?_)
    refine wpIn_ret ?_
    refine then_r ?_
    refine leave0 (v := (eN (s.askR (s.eraseOk (dn : Int) (bn : Int))))) (res1 Try.results61 rfl) ?_
    obtain ⟨e1_, e2_⟩ := NS.erase_no c0; exact ⟨congrArg eN e2_.symm, e1_ ▸ (hN.less (xx_skip xx_id)), oW⟩
   exact absurd c0 (NS.askR_no (by simp [NS.eraseOk, *]))
  refine drawnT (O := (Or1 nbx (Ors L.S No))) (n := 14) 12 [0, 0, 0, 0, 14, 30, 62, 62, 62, 510, 1022, 2046, 4095, 8191] [(0, 11), (1, 12), (2, 13), (3, 14), (4, 15), (5, 16), (6, 17), (7, 18), (8, 19), (9, 20), (10, 21), (11, 22), (12, 23), (13, 7)] [(0, 11), (1, 12), (2, 13), (3, 14), (4, 15), (5, 16), (6, 17), (7, 18), (8, 19), (9, 20), (10, 21), (11, 22)] [0, 1, 2, 3, 4, 5, 6, 7, 8, 9, 10, 11] [] (fun i_ => ([RF.is (Or1 nbx (Ors L.S No)) (ptr L.bN 0), RF.is (Or1 nbx (Ors L.S No)) (ptr L.bN 0), RF.is (Or1 nbx (Ors L.S No)) (eN dn), RF.is (Or1 nbx (Ors L.S No)) (eN bn), RF.is (Or1 nbx (Ors L.S No)) vT, RF.is (Or1 nbx (Ors L.S No)) vT, RF.is (Or1 nbx (Ors L.S No)) (ptr L.bN 0), RF.is (Or1 nbx (Ors L.S No)) (eN dn), RF.is (Or1 nbx (Ors L.S No)) (eN bn), RF.is (Or1 nbx (Ors L.S No)) vF, RF.is (Or1 nbx (Ors L.S No)) vT, RF.is (Or1 nbx (Ors L.S No)) vT] : List (RF (Or1 nbx (Ors L.S No)))).getD i_ (RF.any (Or1 nbx (Ors L.S No)))) (fun _ w_ => Arr 44 nbx [(ptr L.bN 0)] w_ ∧ Nd L s (Or1 nbx X) w_) (fun v21 => ([(ptr L.bN 0), (eN dn), (eN bn), (ptr nbx 0), undef, undef, (eN 0), (v21 13), undef, undef, undef, (v21 0), (v21 1), (v21 2), (v21 3), (v21 4), (v21 5), (v21 6), (v21 7), (v21 8), (v21 9), (v21 10), (v21 11), (v21 12)] ++ (us 54))) (fun v21 => ([(ptr L.bN 0), (eN dn), (eN bn), (ptr nbx 0), undef, undef, (eN 0), undef, undef, undef, undef, (v21 0), (v21 1), (v21 2), (v21 3), (v21 4), (v21 5), (v21 6), (v21 7), (v21 8), (v21 9), (v21 10), (v21 11)] ++ (us 55))) s_mx kr rfl (by decide) (by rfl) kr kr kr (by rfl) (fun v_ => by kernel_rfl) (fun v_ => by kernel_rfl) (fun _ => fun w_ w2_ h ho => by obtain ⟨r_a13, r_hN⟩ := h; exact ⟨r_a13.step0 ho, r_hN.step0 ho⟩) ⟨a13, hN⟩ ?_ ?_ ?_
  ·
   refine ls_cons ?_ ?_
   ·
    intro v21 lo hi w_ k_ hO hd _ _ hk_ _ hR hold
    obtain ⟨r_a13, r_hN⟩ := hR
    clear hd hold
    refine ⟨_, rfl, gd rfl ?_⟩
    exact Does.is (d_load (v := (ptr L.bN 0)) ⟨_, Try.underlying44, rfl⟩ rfl r_a13 rfl)
   refine ls_cons ?_ ?_
   ·
    intro v21 lo hi w_ k_ hO hd _ _ hk_ _ hR hold
    obtain ⟨r_a13, r_hN⟩ := hR
    clear hd hold
    refine ⟨_, rfl, gd rfl ?_⟩
    exact Does.is (d_load (v := (ptr L.bN 0)) ⟨_, Try.underlying44, rfl⟩ rfl r_a13 rfl)
   refine ls_cons ?_ ?_
   ·
    intro v21 lo hi w_ k_ hO hd _ _ hk_ _ hR hold
    obtain ⟨r_a13, r_hN⟩ := hR
    clear hd hold
    refine ⟨_, rfl, gd rfl ?_⟩
    exact Does.is (d_move rfl)
   refine ls_cons ?_ ?_
   ·
    intro v21 lo hi w_ k_ hO hd _ _ hk_ _ hR hold
    obtain ⟨r_a13, r_hN⟩ := hR
    clear hd hold
    refine ⟨_, rfl, gd rfl ?_⟩
    exact Does.is (d_move rfl)
   refine ls_cons ?_ ?_
   ·
    intro v21 lo hi w_ k_ hO hd _ _ hk_ _ hR hold
    obtain ⟨r_a13, r_hN⟩ := hR
    have e1 : v21 1 = (ptr L.bN 0) := hd 1 kr
    have e2 : v21 2 = (eN dn) := hd 2 kr
    have e3 : v21 3 = (eN bn) := hd 3 kr
    clear hd hold
    refine ⟨_, rfl, gd rfl ?_⟩
    exact d_call (xl := [.tmp 12, .tmp 13, .tmp 14]) (al := [(ptr L.bN 0), (eN dn), (eN bn)]) Try.func52 kr rfl (show ([(v21 1), (v21 2), (v21 3)] : List Value) = [(ptr L.bN 0), (eN dn), (eN bn)] from by rw [e1, e2, e3]) rfl (there_ok L s _ r_hN (r := true) (dn : Int) (bn : Int) k0)
   refine ls_cons ?_ ?_
   ·
    intro v21 lo hi w_ k_ hO hd _ _ hk_ _ hR hold
    obtain ⟨r_a13, r_hN⟩ := hR
    have e4 : v21 4 = vT := hd 4 kr
    clear hd hold
    refine ⟨_, rfl, gd rfl ?_⟩
    exact Does.is (d_move (v := vT) e4)
   refine ls_cons ?_ ?_
   ·
    intro v21 lo hi w_ k_ hO hd _ _ hk_ _ hR hold
    obtain ⟨r_a13, r_hN⟩ := hR
    have e5 : v21 5 = vT := hd 5 kr
    clear hd hold
    refine ⟨_, rfl, gd_on rfl rfl rfl (nb rfl) e5 ?_⟩
    exact Does.is (d_load (v := (ptr L.bN 0)) ⟨_, Try.underlying44, rfl⟩ rfl r_a13 rfl)
   refine ls_cons ?_ ?_
   ·
    intro v21 lo hi w_ k_ hO hd _ _ hk_ _ hR hold
    obtain ⟨r_a13, r_hN⟩ := hR
    have e5 : v21 5 = vT := hd 5 kr
    clear hd hold
    refine ⟨_, rfl, gd_on rfl rfl rfl (nb rfl) e5 ?_⟩
    exact Does.is (d_move rfl)
   refine ls_cons ?_ ?_
   ·
    intro v21 lo hi w_ k_ hO hd _ _ hk_ _ hR hold
    obtain ⟨r_a13, r_hN⟩ := hR
    have e5 : v21 5 = vT := hd 5 kr
    clear hd hold
    refine ⟨_, rfl, gd_on rfl rfl rfl (nb rfl) e5 ?_⟩
    exact Does.is (d_move rfl)
   refine ls_cons ?_ ?_
   ·
    intro v21 lo hi w_ k_ hO hd _ _ hk_ _ hR hold
    obtain ⟨r_a13, r_hN⟩ := hR
    have e5 : v21 5 = vT := hd 5 kr
    have e6 : v21 6 = (ptr L.bN 0) := hd 6 kr
    have e7 : v21 7 = (eN dn) := hd 7 kr
    have e8 : v21 8 = (eN bn) := hd 8 kr
    clear hd hold
    refine ⟨_, rfl, gd_on rfl rfl rfl (nb rfl) e5 ?_⟩
    exact d_call (xl := [.tmp 17, .tmp 18, .tmp 19]) (al := [(ptr L.bN 0), (eN dn), (eN bn)]) Try.func79 kr rfl (show ([(v21 6), (v21 7), (v21 8)] : List Value) = [(ptr L.bN 0), (eN dn), (eN bn)] from by rw [e6, e7, e8]) rfl (isBad_ok L s _ r_hN (r := false) (dn : Int) (bn : Int) (Bool.eq_false_iff.2 k1))
   refine ls_cons ?_ ?_
   ·
    intro v21 lo hi w_ k_ hO hd _ _ hk_ _ hR hold
    obtain ⟨r_a13, r_hN⟩ := hR
    have e5 : v21 5 = vT := hd 5 kr
    have e9 : v21 9 = vF := hd 9 kr
    clear hd hold
    refine ⟨_, rfl, gd_on rfl rfl rfl (nb rfl) e5 ?_⟩
    exact Does.is (d_not e9 rfl)
   refine ls_cons ?_ ?_
   ·
    intro v21 lo hi w_ k_ hO hd _ _ hk_ _ hR hold
    obtain ⟨r_a13, r_hN⟩ := hR
    have e10 : v21 10 = vT := hd 10 kr
    have e5 : v21 5 = vT := hd 5 kr
    clear hd hold
    refine ⟨_, rfl, gd rfl ?_⟩
    exact Does.is (d_pick (b := true) (v := vT) e5 e10)
   exact ls_nil
  ·
   exact ms_nil
  intro v21 lo_ hi_ w22 o23 hd iv_ hR
  have e0 : v21 0 = (ptr L.bN 0) := hd 0 (by decide)
  have e1 : v21 1 = (ptr L.bN 0) := hd 1 (by decide)
  have e2 : v21 2 = (eN dn) := hd 2 (by decide)
  have e3 : v21 3 = (eN bn) := hd 3 (by decide)
  have e4 : v21 4 = vT := hd 4 (by decide)
  have e5 : v21 5 = vT := hd 5 (by decide)
  have e6 : v21 6 = (ptr L.bN 0) := hd 6 (by decide)
  have e7 : v21 7 = (eN dn) := hd 7 (by decide)
  have e8 : v21 8 = (eN bn) := hd 8 (by decide)
  have e9 : v21 9 = vF := hd 9 (by decide)
  have e10 : v21 10 = vT := hd 10 (by decide)
  have e11 : v21 11 = vT := hd 11 (by decide)
  clear hd iv_ lo_ hi_
  refine wpL.flat ([(ptr L.bN 0), (eN dn), (eN bn), (ptr nbx 0), undef, undef, (eN 0), undef, undef, undef, undef, (ptr L.bN 0), (ptr L.bN 0), (eN dn), (eN bn), vT, vT, (ptr L.bN 0), (eN dn), (eN bn), vF, vT, vT] ++ (us 55)) (by rw [e0, e1, e2, e3, e4, e5, e6, e7, e8, e9, e10, e11] <;> rfl) ?_
  clear e0 e1 e2 e3 e4 e5 e6 e7 e8 e9 e10 e11
  obtain ⟨xr_a13, xr_hN⟩ := hR
  replace a13 : Arr 44 nbx [(ptr L.bN 0)] w22 := xr_a13
  replace hN := xr_hN
  clear xr_a13 xr_hN
  replace oW := oW.tail o23 (tl_new g_oW_nbx (tl_sin (fun k h => h) tl_no))
  refine wO (d_call (xl := [.tmp 11, .tmp 22]) (al := [(ptr L.bN 0), vT]) Try.func80 kr rfl rfl rfl (ask_ok L s _ hN (g := (s.eraseOk (dn : Int) (bn : Int))) true (by simp [NS.eraseOk, *]))) ?_
  rintro _ w24 ⟨rfl, a26, o25⟩
  replace a13 := a13.step o25 (hN.dis _ in1)
  replace oW := oW.tail o25 (fun k _ e => (fun k h => h) k e)
  replace hN := a26
  refine wI (d_assign rfl) ?_
  refine wF ([(ptr L.bN 0), (eN dn), (eN bn), (ptr nbx 0), undef, undef, (eN 0), (eN (s.askR (s.eraseOk (dn : Int) (bn : Int)))), undef, undef, undef, (ptr L.bN 0), (ptr L.bN 0), (eN dn), (eN bn), vT, vT, (ptr L.bN 0), (eN dn), (eN bn), vF, vT, vT, (eN (s.askR (s.eraseOk (dn : Int) (bn : Int))))] ++ (us 54)) ?_
  refine wD (tN (wQ (pL ?_)))
  refine wI (d_move rfl) ?_
  refine wI (n_neq (a := (s.askR (s.eraseOk (dn : Int) (bn : Int)))) (b := 0) rfl rfl rfl) ?_
  refine wD (tN ?_)
  refine cond_un rfl (fun c0 => ?_) (fun c0 => ?_)
  ·
   refine wQ (pL ?_)
   refine wI (d_move rfl) ?_
   refine wI (d_assign rfl) ?_
   refine wD (tN ?_)
   refine wpIn_ret ?_
   refine then_r ?_
   refine leave0 (v := (eN (s.askR (s.eraseOk (dn : Int) (bn : Int))))) (res1 Try.results61 rfl) ?_
   obtain ⟨e1_, e2_⟩ := NS.erase_no c0; exact ⟨congrArg eN e2_.symm, e1_ ▸ (hN.less (xx_skip xx_id)), oW⟩
  refine wK (tN (wQ (pL ?_)))
  refine wI (d_load (v := (ptr L.bN 0)) ⟨_, Try.underlying44, rfl⟩ rfl a13 rfl) ?_
  refine wI (d_nilCheck (b := L.bN) (o := 0) rfl) ?_
  refine wI (d_fieldAddr (j := 11) Try.underlying81 rfl s_ti79 (by decide) rfl rfl) ?_
  refine wI (nd_ld (v := L.ub) hN ⟨_, Try.underlying79, rfl⟩ rfl (fun _ => rfl)) ?_
  refine wI (d_move rfl) ?_
  refine wF ([(ptr L.bN 0), (eN dn), (eN bn), (ptr nbx 0), undef, undef, (eN 0), (eN (s.askR (s.eraseOk (dn : Int) (bn : Int)))), undef, undef, undef, (ptr L.bN 0), (ptr L.bN 0), (eN dn), (eN bn), vT, vT, (ptr L.bN 0), (eN dn), (eN bn), vF, vT, vT, (eN (s.askR (s.eraseOk (dn : Int) (bn : Int)))), (eN (s.askR (s.eraseOk (dn : Int) (bn : Int)))), (Value.bool (!decide ((s.askR (s.eraseOk (dn : Int) (bn : Int))) = 0))), undef, (ptr L.bN 0), (ptr L.bN 0), (ptr L.bN 11), L.ub, (eN dn)] ++ (us 46)) ?_
  refine wI (nd_ixU (i := dn) hN Try.underlying79 s_ti83 rfl (show _ = Value.int _ (dn : Int) from rfl) hd1) ?_
  refine wI (nd_ldU (i := dn) hN ⟨_, Try.underlying83, rfl⟩ rfl hd1) ?_
  refine wI (d_move rfl) ?_
  refine wI (d_index (b := (L.bk.getD dn 0)) (o := 0) (n := ((s.ask (s.eraseOk (dn : Int) (bn : Int))).gB)) (c := ((s.ask (s.eraseOk (dn : Int) (bn : Int))).gB)) (j := (bn * 3)) Try.underlying83 s_ti87 rfl (show _ = Value.int _ (bn : Int) from rfl) oo (Int.ofNat_lt.2 hb1) (by simp)) ?_
  refine wI (d_fieldAddr (j := bn * 3 + 1) Try.underlying87 rfl s_ti3 (by decide) rfl rfl) ?_
  refine wI (nd_ldS (i := dn) (j := bn) (f := 1) hN ⟨_, Try.underlying3, rfl⟩ rfl hd1 hb1 (by decide) rfl) ?_
  refine wI (d_add (k := .i64) (m := ((s.ask (s.eraseOk (dn : Int) (bn : Int))).bl dn bn).er) (n := 1) rfl rfl rfl) ?_
  refine wF ([(ptr L.bN 0), (eN dn), (eN bn), (ptr nbx 0), undef, undef, (eN 0), (eN (s.askR (s.eraseOk (dn : Int) (bn : Int)))), undef, undef, undef, (ptr L.bN 0), (ptr L.bN 0), (eN dn), (eN bn), vT, vT, (ptr L.bN 0), (eN dn), (eN bn), vF, vT, vT, (eN (s.askR (s.eraseOk (dn : Int) (bn : Int)))), (eN (s.askR (s.eraseOk (dn : Int) (bn : Int)))), (Value.bool (!decide ((s.askR (s.eraseOk (dn : Int) (bn : Int))) = 0))), undef, (ptr L.bN 0), (ptr L.bN 0), (ptr L.bN 11), L.ub, (eN dn), (ixp L.ub dn), (sli (L.bk.getD dn 0) 0 ((s.ask (s.eraseOk (dn : Int) (bn : Int))).gB) ((s.ask (s.eraseOk (dn : Int) (bn : Int))).gB)), (eN bn), (ptr (L.bk.getD dn 0) (bn * 3)), (ptr (L.bk.getD dn 0) (bn * 3 + 1)), (eI (((s.ask (s.eraseOk (dn : Int) (bn : Int))).bl dn bn).er)), (eI (IntKind.i64.wrap (((s.ask (s.eraseOk (dn : Int) (bn : Int))).bl dn bn).er + 1)))] ++ (us 39)) ?_
  refine wI (d_index (b := (L.bk.getD dn 0)) (o := 0) (n := ((s.ask (s.eraseOk (dn : Int) (bn : Int))).gB)) (c := ((s.ask (s.eraseOk (dn : Int) (bn : Int))).gB)) (j := (bn * 3)) Try.underlying83 s_ti87 rfl (show _ = Value.int _ (bn : Int) from rfl) oo (Int.ofNat_lt.2 hb1) (by simp)) ?_
  refine wI (d_fieldAddr (j := bn * 3 + 1) Try.underlying87 rfl s_ti3 (by decide) rfl rfl) ?_
  refine wO (nd_stS (i := dn) (j := bn) (f := 1) (x' := { (s.ask (s.eraseOk (dn : Int) (bn : Int))).bl dn bn with er := IntKind.i64.wrap (((s.ask (s.eraseOk (dn : Int) (bn : Int))).bl dn bn).er + 1) }) hN s_ti3 rfl rfl rfl hd1 hb1 (by decide) rfl (hN.ok.nx _ _)) ?_
  rintro _ w27 ⟨a28, o29⟩
  replace a13 := a13.step o29 (hN.dis _ in1)
  replace oW := oW.tail o29 (fun k _ e => (fun k h => h) k e)
  replace hN := a28
  refine wD (tN (wQ (pL ?_)))
  refine wI (d_load (v := (ptr L.bN 0)) ⟨_, Try.underlying44, rfl⟩ rfl a13 rfl) ?_
  refine wO (d_call (xl := [.tmp 41]) (al := [(ptr L.bN 0)]) Try.func82 kr rfl rfl rfl (goes_ok L ((s.ask (s.eraseOk (dn : Int) (bn : Int))).setB dn bn { (s.ask (s.eraseOk (dn : Int) (bn : Int))).bl dn bn with er := IntKind.i64.wrap (((s.ask (s.eraseOk (dn : Int) (bn : Int))).bl dn bn).er + 1) }) _ hN)) ?_
  rintro _ w30 ⟨rfl, a32, o31⟩
  replace a13 := a13.step o31 (hN.dis _ in1)
  replace oW := oW.tail o31 (fun k _ e => (fun k h => h) k e)
  replace hN := a32
  refine wO (d_alloc s_ti4 rfl) ?_
  rintro _ w33 ⟨tb, rfl, g34, a35, o36⟩
  have n_nbx_tb : nbx ≠ tb := a13.ne g34
  have g_oW_tb : W.heap.size ≤ tb := Nat.le_trans oW.size g34
  replace hN := hN.new o36 g34
  replace a13 := a13.step0 o36
  replace oW := oW.tail0 o36
  refine wO (d_store s_ti4 rfl rfl rfl a35 (nb rfl) rfl) ?_
  rintro _ w37 ⟨a38, o39⟩
  replace hN := hN.stepb o39 in1
  replace a13 := a13.step o39 (fun e => absurd e n_nbx_tb)
  replace oW := oW.tailb o39 g_oW_tb
  refine wF ([(ptr L.bN 0), (eN dn), (eN bn), (ptr nbx 0), undef, undef, (eN 0), (eN (s.askR (s.eraseOk (dn : Int) (bn : Int)))), (ptr tb 0), undef, undef, (ptr L.bN 0), (ptr L.bN 0), (eN dn), (eN bn), vT, vT, (ptr L.bN 0), (eN dn), (eN bn), vF, vT, vT, (eN (s.askR (s.eraseOk (dn : Int) (bn : Int)))), (eN (s.askR (s.eraseOk (dn : Int) (bn : Int)))), (Value.bool (!decide ((s.askR (s.eraseOk (dn : Int) (bn : Int))) = 0))), undef, (ptr L.bN 0), (ptr L.bN 0), (ptr L.bN 11), L.ub, (eN dn), (ixp L.ub dn), (sli (L.bk.getD dn 0) 0 ((s.ask (s.eraseOk (dn : Int) (bn : Int))).gB) ((s.ask (s.eraseOk (dn : Int) (bn : Int))).gB)), (eN bn), (ptr (L.bk.getD dn 0) (bn * 3)), (ptr (L.bk.getD dn 0) (bn * 3 + 1)), (eI (((s.ask (s.eraseOk (dn : Int) (bn : Int))).bl dn bn).er)), (eI (IntKind.i64.wrap (((s.ask (s.eraseOk (dn : Int) (bn : Int))).bl dn bn).er + 1))), (ptr (L.bk.getD dn 0) (bn * 3)), (ptr (L.bk.getD dn 0) (bn * 3 + 1)), (ptr L.bN 0), (Value.bool (((s.ask (s.eraseOk (dn : Int) (bn : Int))).setB dn bn { (s.ask (s.eraseOk (dn : Int) (bn : Int))).bl dn bn with er := IntKind.i64.wrap (((s.ask (s.eraseOk (dn : Int) (bn : Int))).bl dn bn).er + 1) }).goesR))] ++ (us 35)) ?_
  refine wD (tN (wQ (wQ (pL ?_))))
  refine wI (d_load (v := (ptr L.bN 0)) ⟨_, Try.underlying44, rfl⟩ rfl a13 rfl) ?_
  refine wI (d_nilCheck (b := L.bN) (o := 0) rfl) ?_
  refine wI (d_fieldAddr (j := 3) Try.underlying81 rfl s_ti73 (by decide) rfl rfl) ?_
  refine wI (nd_ldAg (vs := [(eN ((((s.ask (s.eraseOk (dn : Int) (bn : Int))).setB dn bn { (s.ask (s.eraseOk (dn : Int) (bn : Int))).bl dn bn with er := IntKind.i64.wrap (((s.ask (s.eraseOk (dn : Int) (bn : Int))).bl dn bn).er + 1) }).goes).gD)), (eN ((((s.ask (s.eraseOk (dn : Int) (bn : Int))).setB dn bn { (s.ask (s.eraseOk (dn : Int) (bn : Int))).bl dn bn with er := IntKind.i64.wrap (((s.ask (s.eraseOk (dn : Int) (bn : Int))).bl dn bn).er + 1) }).goes).gB)), (eN ((((s.ask (s.eraseOk (dn : Int) (bn : Int))).setB dn bn { (s.ask (s.eraseOk (dn : Int) (bn : Int))).bl dn bn with er := IntKind.i64.wrap (((s.ask (s.eraseOk (dn : Int) (bn : Int))).bl dn bn).er + 1) }).goes).gP)), (sli L.bD 0 ((((s.ask (s.eraseOk (dn : Int) (bn : Int))).setB dn bn { (s.ask (s.eraseOk (dn : Int) (bn : Int))).bl dn bn with er := IntKind.i64.wrap (((s.ask (s.eraseOk (dn : Int) (bn : Int))).bl dn bn).er + 1) }).goes).n) ((((s.ask (s.eraseOk (dn : Int) (bn : Int))).setB dn bn { (s.ask (s.eraseOk (dn : Int) (bn : Int))).bl dn bn with er := IntKind.i64.wrap (((s.ask (s.eraseOk (dn : Int) (bn : Int))).bl dn bn).er + 1) }).goes).n))]) hN ⟨_, Try.underlying73, rfl⟩ s_ti73 rfl (fun _ => rfl) rfl) ?_
  refine wI (d_move rfl) ?_
  refine wI (d_move rfl) ?_
  refine wO (d_call (xl := [.tmp 46, .tmp 47, .tmp 48]) (al := [(Value.agg #[(eN ((((s.ask (s.eraseOk (dn : Int) (bn : Int))).setB dn bn { (s.ask (s.eraseOk (dn : Int) (bn : Int))).bl dn bn with er := IntKind.i64.wrap (((s.ask (s.eraseOk (dn : Int) (bn : Int))).bl dn bn).er + 1) }).goes).gD)), (eN ((((s.ask (s.eraseOk (dn : Int) (bn : Int))).setB dn bn { (s.ask (s.eraseOk (dn : Int) (bn : Int))).bl dn bn with er := IntKind.i64.wrap (((s.ask (s.eraseOk (dn : Int) (bn : Int))).bl dn bn).er + 1) }).goes).gB)), (eN ((((s.ask (s.eraseOk (dn : Int) (bn : Int))).setB dn bn { (s.ask (s.eraseOk (dn : Int) (bn : Int))).bl dn bn with er := IntKind.i64.wrap (((s.ask (s.eraseOk (dn : Int) (bn : Int))).bl dn bn).er + 1) }).goes).gP)), (sli L.bD 0 ((((s.ask (s.eraseOk (dn : Int) (bn : Int))).setB dn bn { (s.ask (s.eraseOk (dn : Int) (bn : Int))).bl dn bn with er := IntKind.i64.wrap (((s.ask (s.eraseOk (dn : Int) (bn : Int))).bl dn bn).er + 1) }).goes).n) ((((s.ask (s.eraseOk (dn : Int) (bn : Int))).setB dn bn { (s.ask (s.eraseOk (dn : Int) (bn : Int))).bl dn bn with er := IntKind.i64.wrap (((s.ask (s.eraseOk (dn : Int) (bn : Int))).bl dn bn).er + 1) }).goes).n))]), (eN dn), (eN bn)]) Try.func87 kr rfl rfl rfl (blockI_ok (((s.ask (s.eraseOk (dn : Int) (bn : Int))).setB dn bn { (s.ask (s.eraseOk (dn : Int) (bn : Int))).bl dn bn with er := IntKind.i64.wrap (((s.ask (s.eraseOk (dn : Int) (bn : Int))).bl dn bn).er + 1) }).goes) L.bD dn bn _)) ?_
  rintro _ w40 ⟨b42, b43, b44, rfl, g45, g46, g47, n51, n52, n53, a48, a49, a50, o41⟩
  have n_nbx_b42 : nbx ≠ b42 := a13.ne g45
  have n_tb_b42 : tb ≠ b42 := a38.ne g45
  have g_oW_b42 : W.heap.size ≤ b42 := Nat.le_trans oW.size g45
  replace hN := Nd.less (Y := Or1 b42 (Or1 tb (Or1 nbx X))) hN (xx_new g45 xx_id)
  have n_nbx_b43 : nbx ≠ b43 := a13.ne g46
  have n_tb_b43 : tb ≠ b43 := a38.ne g46
  have g_oW_b43 : W.heap.size ≤ b43 := Nat.le_trans oW.size g46
  replace hN := Nd.less (Y := Or1 b43 (Or1 b42 (Or1 tb (Or1 nbx X)))) hN (xx_new g46 xx_id)
  have n_b42_b43 : b42 ≠ b43 := n51
  have n_b42_b44 : b42 ≠ b44 := n52
  have n_b43_b44 : b43 ≠ b44 := n53
  have n_nbx_b44 : nbx ≠ b44 := a13.ne g47
  have n_tb_b44 : tb ≠ b44 := a38.ne g47
  have g_oW_b44 : W.heap.size ≤ b44 := Nat.le_trans oW.size g47
  replace hN := hN.new o41 g47
  replace a13 := a13.step0 o41
  replace a38 := a38.step0 o41
  replace oW := oW.tail0 o41
  refine wF ([(ptr L.bN 0), (eN dn), (eN bn), (ptr nbx 0), undef, undef, (eN 0), (eN (s.askR (s.eraseOk (dn : Int) (bn : Int)))), (ptr tb 0), undef, undef, (ptr L.bN 0), (ptr L.bN 0), (eN dn), (eN bn), vT, vT, (ptr L.bN 0), (eN dn), (eN bn), vF, vT, vT, (eN (s.askR (s.eraseOk (dn : Int) (bn : Int)))), (eN (s.askR (s.eraseOk (dn : Int) (bn : Int)))), (Value.bool (!decide ((s.askR (s.eraseOk (dn : Int) (bn : Int))) = 0))), undef, (ptr L.bN 0), (ptr L.bN 0), (ptr L.bN 11), L.ub, (eN dn), (ixp L.ub dn), (sli (L.bk.getD dn 0) 0 ((s.ask (s.eraseOk (dn : Int) (bn : Int))).gB) ((s.ask (s.eraseOk (dn : Int) (bn : Int))).gB)), (eN bn), (ptr (L.bk.getD dn 0) (bn * 3)), (ptr (L.bk.getD dn 0) (bn * 3 + 1)), (eI (((s.ask (s.eraseOk (dn : Int) (bn : Int))).bl dn bn).er)), (eI (IntKind.i64.wrap (((s.ask (s.eraseOk (dn : Int) (bn : Int))).bl dn bn).er + 1))), (ptr (L.bk.getD dn 0) (bn * 3)), (ptr (L.bk.getD dn 0) (bn * 3 + 1)), (ptr L.bN 0), (Value.bool (((s.ask (s.eraseOk (dn : Int) (bn : Int))).setB dn bn { (s.ask (s.eraseOk (dn : Int) (bn : Int))).bl dn bn with er := IntKind.i64.wrap (((s.ask (s.eraseOk (dn : Int) (bn : Int))).bl dn bn).er + 1) }).goesR)), (ptr L.bN 0), (ptr L.bN 0), (ptr L.bN 3), (Value.agg #[(eN ((((s.ask (s.eraseOk (dn : Int) (bn : Int))).setB dn bn { (s.ask (s.eraseOk (dn : Int) (bn : Int))).bl dn bn with er := IntKind.i64.wrap (((s.ask (s.eraseOk (dn : Int) (bn : Int))).bl dn bn).er + 1) }).goes).gD)), (eN ((((s.ask (s.eraseOk (dn : Int) (bn : Int))).setB dn bn { (s.ask (s.eraseOk (dn : Int) (bn : Int))).bl dn bn with er := IntKind.i64.wrap (((s.ask (s.eraseOk (dn : Int) (bn : Int))).bl dn bn).er + 1) }).goes).gB)), (eN ((((s.ask (s.eraseOk (dn : Int) (bn : Int))).setB dn bn { (s.ask (s.eraseOk (dn : Int) (bn : Int))).bl dn bn with er := IntKind.i64.wrap (((s.ask (s.eraseOk (dn : Int) (bn : Int))).bl dn bn).er + 1) }).goes).gP)), (sli L.bD 0 ((((s.ask (s.eraseOk (dn : Int) (bn : Int))).setB dn bn { (s.ask (s.eraseOk (dn : Int) (bn : Int))).bl dn bn with er := IntKind.i64.wrap (((s.ask (s.eraseOk (dn : Int) (bn : Int))).bl dn bn).er + 1) }).goes).n) ((((s.ask (s.eraseOk (dn : Int) (bn : Int))).setB dn bn { (s.ask (s.eraseOk (dn : Int) (bn : Int))).bl dn bn with er := IntKind.i64.wrap (((s.ask (s.eraseOk (dn : Int) (bn : Int))).bl dn bn).er + 1) }).goes).n))]), (eN dn), (eN bn), (Value.func (.func 107) #[] #[(ptr b42 0), (ptr b43 0), (ptr b44 0)])] ++ (us 28)) ?_
  refine wD (tN (wB ?_))
  have h_lt_nbx := a13.lt
  have h_lt_tb := a38.lt
  have h_lt_b44 := a50.lt
  have h_lt_b42 := a48.lt
  have h_lt_b43 := a49.lt
  have tq_oW := oW.size
  have nO_b42 : ¬ (Or1 tb (Or1 nbx (Ors L.S No))) b42 := (not_or1 (Ne.symm n_tb_b42) (not_or1 (Ne.symm n_nbx_b42) (not_ors (hN.dis _ (in2 (in2 in1))) not_no)))
  have nO_b43 : ¬ (Or1 tb (Or1 nbx (Ors L.S No))) b43 := (not_or1 (Ne.symm n_tb_b43) (not_or1 (Ne.symm n_nbx_b43) (not_ors (hN.dis _ (in2 in1)) not_no)))
  have nO_b44 : ¬ (Or1 tb (Or1 nbx (Ors L.S No))) b44 := (not_or1 (Ne.symm n_tb_b44) (not_or1 (Ne.symm n_nbx_b44) (not_ors (hN.dis _ in1) not_no)))
  obtain ⟨D_, hD_⟩ : ∃ D_, w40.heap.size = D_ := ⟨_, rfl⟩
  obtain ⟨L_, hL_⟩ : ∃ L_, w40.heap.size + 1 = L_ := ⟨_, rfl⟩
  refine range_ (encs := (fun k => [eN k, ptr L.bD ((((s.ask (s.eraseOk (dn : Int) (bn : Int))).setB dn bn { (s.ask (s.eraseOk (dn : Int) (bn : Int))).bl dn bn with er := IntKind.i64.wrap (((s.ask (s.eraseOk (dn : Int) (bn : Int))).bl dn bn).er + 1) }).goes).ix dn bn k)])) (Pv := No) (O := (Or1 tb (Or1 nbx (Ors L.S No)))) (xs := (List.range (((s.ask (s.eraseOk (dn : Int) (bn : Int))).setB dn bn { (s.ask (s.eraseOk (dn : Int) (bn : Int))).bl dn bn with er := IntKind.i64.wrap (((s.ask (s.eraseOk (dn : Int) (bn : Int))).bl dn bn).er + 1) }).goes).gP)) (D := D_) (L := L_) (rs := []) hD_ hL_ rfl Try.func107 kr rfl (iter_block (((s.ask (s.eraseOk (dn : Int) (bn : Int))).setB dn bn { (s.ask (s.eraseOk (dn : Int) (bn : Int))).bl dn bn with er := IntKind.i64.wrap (((s.ask (s.eraseOk (dn : Int) (bn : Int))).bl dn bn).er + 1) }).goes) hN.ok L.bD dn bn hd1 hb1 b42 b43 b44 a48 a49 a50 n_b42_b43 n_b42_b44 n_b43_b44 nO_b42 nO_b43 nO_b44) (fun k t => t.elim) (fun _ => rfl) (lt_or1 h_lt_tb (lt_or1 h_lt_nbx (lt_ors hN.lt lt_no))) (fun (pre : List Nat) (w_ : World) => Only (Or1 tb (Or1 nbx (Ors L.S No))) w40 w_ ∧ Arr 44 nbx [(ptr L.bN 0)] w_ ∧ Arr 4 tb [(Value.bool (((s.ask (s.eraseOk (dn : Int) (bn : Int))).setB dn bn { (s.ask (s.eraseOk (dn : Int) (bn : Int))).bl dn bn with er := IntKind.i64.wrap (((s.ask (s.eraseOk (dn : Int) (bn : Int))).bl dn bn).er + 1) }).goesR))] w_ ∧ Arr 3 b44 [(eN bn)] w_ ∧ Arr 73 b42 [(eN ((((s.ask (s.eraseOk (dn : Int) (bn : Int))).setB dn bn { (s.ask (s.eraseOk (dn : Int) (bn : Int))).bl dn bn with er := IntKind.i64.wrap (((s.ask (s.eraseOk (dn : Int) (bn : Int))).bl dn bn).er + 1) }).goes).gD)), (eN ((((s.ask (s.eraseOk (dn : Int) (bn : Int))).setB dn bn { (s.ask (s.eraseOk (dn : Int) (bn : Int))).bl dn bn with er := IntKind.i64.wrap (((s.ask (s.eraseOk (dn : Int) (bn : Int))).bl dn bn).er + 1) }).goes).gB)), (eN ((((s.ask (s.eraseOk (dn : Int) (bn : Int))).setB dn bn { (s.ask (s.eraseOk (dn : Int) (bn : Int))).bl dn bn with er := IntKind.i64.wrap (((s.ask (s.eraseOk (dn : Int) (bn : Int))).bl dn bn).er + 1) }).goes).gP)), (sli L.bD 0 ((((s.ask (s.eraseOk (dn : Int) (bn : Int))).setB dn bn { (s.ask (s.eraseOk (dn : Int) (bn : Int))).bl dn bn with er := IntKind.i64.wrap (((s.ask (s.eraseOk (dn : Int) (bn : Int))).bl dn bn).er + 1) }).goes).n) ((((s.ask (s.eraseOk (dn : Int) (bn : Int))).setB dn bn { (s.ask (s.eraseOk (dn : Int) (bn : Int))).bl dn bn with er := IntKind.i64.wrap (((s.ask (s.eraseOk (dn : Int) (bn : Int))).bl dn bn).er + 1) }).goes).n))] w_ ∧ Arr 3 b43 [(eN dn)] w_ ∧ Nd L ((((s.ask (s.eraseOk (dn : Int) (bn : Int))).setB dn bn { (s.ask (s.eraseOk (dn : Int) (bn : Int))).bl dn bn with er := IntKind.i64.wrap (((s.ask (s.eraseOk (dn : Int) (bn : Int))).bl dn bn).er + 1) }).goes).eraseTo (((s.ask (s.eraseOk (dn : Int) (bn : Int))).setB dn bn { (s.ask (s.eraseOk (dn : Int) (bn : Int))).bl dn bn with er := IntKind.i64.wrap (((s.ask (s.eraseOk (dn : Int) (bn : Int))).bl dn bn).er + 1) }).goesR) dn bn pre.length) (Or1 L_ (Or1 D_ (Or1 b44 (Or1 b43 (Or1 b42 (Or1 tb (Or1 nbx X))))))) w_) (fun _ _ _ => False) ?_ ?_ ?_ ?_ ?_ ?_
  ·
   rintro pre w_ w2_ ⟨o54, a13, a38, a50, a48, a49, hN⟩ ho_
   exact ⟨o54.tail ho_ (stab_tl hD_ hL_ (fun k t => t.elim)), a13.step ho_ (stab_b hD_ hL_ h_lt_nbx (fun t => t.elim)), a38.step ho_ (stab_b hD_ hL_ h_lt_tb (fun t => t.elim)), a50.step ho_ (stab_b hD_ hL_ h_lt_b44 (fun t => t.elim)), a48.step ho_ (stab_b hD_ hL_ h_lt_b42 (fun t => t.elim)), a49.step ho_ (stab_b hD_ hL_ h_lt_b43 (fun t => t.elim)), hN.step ho_ (stab_p (fun k t => t.elim))⟩
  ·
   intro _ _ _ _ h _; exact h.elim
  ·
   refine ⟨?_, ?_, ?_, ?_, ?_, ?_, ?_⟩
   ·
    exact Only.refl _ _
   ·
    exact a13
   ·
    exact a38
   ·
    exact a50
   ·
    exact a48
   ·
    exact a49
   ·
    (try dsimp only)
    all_goals (rw [show ([] : List Nat).length = 0 from rfl, NS.eraseTo_zero]; exact Nd.less hN (xx_new oo (xx_new (Nat.le_of_eq hD_) xx_id)))
  ·
   intro pre k w1_ hpx_ hI_ hL1_
   obtain ⟨o54, a13, a38, a50, a48, a49, hN⟩ := hI_
   replace oW := oW.tail o54 (tl_new g_oW_tb (tl_new g_oW_nbx (tl_sin (fun k h => h) tl_no)))
   have n_nbx_D_ : nbx ≠ D_ := by omega
   have n_tb_D_ : tb ≠ D_ := by omega
   have n_b44_D_ : b44 ≠ D_ := by omega
   have n_b42_D_ : b42 ≠ D_ := by omega
   have n_b43_D_ : b43 ≠ D_ := by omega
   have g_oW_D_ : W.heap.size ≤ D_ := by omega
   have g_o54_D_ : w40.heap.size ≤ D_ := by omega
   have n_nbx_L_ : nbx ≠ L_ := by omega
   have n_tb_L_ : tb ≠ L_ := by omega
   have n_b44_L_ : b44 ≠ L_ := by omega
   have n_b42_L_ : b42 ≠ L_ := by omega
   have n_b43_L_ : b43 ≠ L_ := by omega
   have g_oW_L_ : W.heap.size ≤ L_ := by omega
   have g_o54_L_ : w40.heap.size ≤ L_ := by omega
   have n_D__L_ : D_ ≠ L_ := by omega
   have aL_ : Dead L_ w1_ := hL1_
   have aD_ : Dead D_ w1_ := by unfold Dead; omega
   refine wp_eq (l' := ([(ptr L.bN 0), (eN dn), (eN bn), (ptr nbx 0), undef, undef, (eN 0), (eN (s.askR (s.eraseOk (dn : Int) (bn : Int)))), (ptr tb 0), undef, undef, (ptr L.bN 0), (ptr L.bN 0), (eN dn), (eN bn), vT, vT, (ptr L.bN 0), (eN dn), (eN bn), vF, vT, vT, (eN (s.askR (s.eraseOk (dn : Int) (bn : Int)))), (eN (s.askR (s.eraseOk (dn : Int) (bn : Int)))), (Value.bool (!decide ((s.askR (s.eraseOk (dn : Int) (bn : Int))) = 0))), undef, (ptr L.bN 0), (ptr L.bN 0), (ptr L.bN 11), L.ub, (eN dn), (ixp L.ub dn), (sli (L.bk.getD dn 0) 0 ((s.ask (s.eraseOk (dn : Int) (bn : Int))).gB) ((s.ask (s.eraseOk (dn : Int) (bn : Int))).gB)), (eN bn), (ptr (L.bk.getD dn 0) (bn * 3)), (ptr (L.bk.getD dn 0) (bn * 3 + 1)), (eI (((s.ask (s.eraseOk (dn : Int) (bn : Int))).bl dn bn).er)), (eI (IntKind.i64.wrap (((s.ask (s.eraseOk (dn : Int) (bn : Int))).bl dn bn).er + 1))), (ptr (L.bk.getD dn 0) (bn * 3)), (ptr (L.bk.getD dn 0) (bn * 3 + 1)), (ptr L.bN 0), (Value.bool (((s.ask (s.eraseOk (dn : Int) (bn : Int))).setB dn bn { (s.ask (s.eraseOk (dn : Int) (bn : Int))).bl dn bn with er := IntKind.i64.wrap (((s.ask (s.eraseOk (dn : Int) (bn : Int))).bl dn bn).er + 1) }).goesR)), (ptr L.bN 0), (ptr L.bN 0), (ptr L.bN 3), (Value.agg #[(eN ((((s.ask (s.eraseOk (dn : Int) (bn : Int))).setB dn bn { (s.ask (s.eraseOk (dn : Int) (bn : Int))).bl dn bn with er := IntKind.i64.wrap (((s.ask (s.eraseOk (dn : Int) (bn : Int))).bl dn bn).er + 1) }).goes).gD)), (eN ((((s.ask (s.eraseOk (dn : Int) (bn : Int))).setB dn bn { (s.ask (s.eraseOk (dn : Int) (bn : Int))).bl dn bn with er := IntKind.i64.wrap (((s.ask (s.eraseOk (dn : Int) (bn : Int))).bl dn bn).er + 1) }).goes).gB)), (eN ((((s.ask (s.eraseOk (dn : Int) (bn : Int))).setB dn bn { (s.ask (s.eraseOk (dn : Int) (bn : Int))).bl dn bn with er := IntKind.i64.wrap (((s.ask (s.eraseOk (dn : Int) (bn : Int))).bl dn bn).er + 1) }).goes).gP)), (sli L.bD 0 ((((s.ask (s.eraseOk (dn : Int) (bn : Int))).setB dn bn { (s.ask (s.eraseOk (dn : Int) (bn : Int))).bl dn bn with er := IntKind.i64.wrap (((s.ask (s.eraseOk (dn : Int) (bn : Int))).bl dn bn).er + 1) }).goes).n) ((((s.ask (s.eraseOk (dn : Int) (bn : Int))).setB dn bn { (s.ask (s.eraseOk (dn : Int) (bn : Int))).bl dn bn with er := IntKind.i64.wrap (((s.ask (s.eraseOk (dn : Int) (bn : Int))).bl dn bn).er + 1) }).goes).n))]), (eN dn), (eN bn), (Value.func (.func 107) #[] #[(ptr b42 0), (ptr b43 0), (ptr b44 0)]), (eN k), (ptr L.bD ((((s.ask (s.eraseOk (dn : Int) (bn : Int))).setB dn bn { (s.ask (s.eraseOk (dn : Int) (bn : Int))).bl dn bn with er := IntKind.i64.wrap (((s.ask (s.eraseOk (dn : Int) (bn : Int))).bl dn bn).er + 1) }).goes).ix dn bn k))] ++ (us 26))) kr ?_
   refine pL ?_
   refine wI (d_assign rfl) ?_
   refine wD (tN ?_)
   refine ⟨Only.refl _ _, fun w2_ oL_ _ => ?_⟩
   replace hN := hN.stepb oL_ in1
   replace a13 := a13.step oL_ (fun e => absurd e n_nbx_L_)
   replace a38 := a38.step oL_ (fun e => absurd e n_tb_L_)
   replace a50 := a50.step oL_ (fun e => absurd e n_b44_L_)
   replace a48 := a48.step oL_ (fun e => absurd e n_b42_L_)
   replace a49 := a49.step oL_ (fun e => absurd e n_b43_L_)
   replace aD_ := aD_.step oL_ (fun e => absurd e n_D__L_)
   replace oW := oW.tailb oL_ g_oW_L_
   replace o54 := o54.tailb oL_ g_o54_L_
   replace aL_ : Dead L_ w2_ := Nat.lt_of_lt_of_le aL_ oL_.size
   have oR_ : Only (fun k => (Or1 tb (Or1 nbx (Ors L.S No))) k ∨ L_ < k) w2_ w2_ := Only.refl _ _
   obtain ⟨hk1_, hk2_⟩ := pre_range hpx_
   subst hk1_
   refine wp_eq (l' := ([(ptr L.bN 0), (eN dn), (eN bn), (ptr nbx 0), undef, undef, (eN 0), (eN (s.askR (s.eraseOk (dn : Int) (bn : Int)))), (ptr tb 0), undef, (ptr L.bD ((((s.ask (s.eraseOk (dn : Int) (bn : Int))).setB dn bn { (s.ask (s.eraseOk (dn : Int) (bn : Int))).bl dn bn with er := IntKind.i64.wrap (((s.ask (s.eraseOk (dn : Int) (bn : Int))).bl dn bn).er + 1) }).goes).ix dn bn pre.length)), (ptr L.bN 0), (ptr L.bN 0), (eN dn), (eN bn), vT, vT, (ptr L.bN 0), (eN dn), (eN bn), vF, vT, vT, (eN (s.askR (s.eraseOk (dn : Int) (bn : Int)))), (eN (s.askR (s.eraseOk (dn : Int) (bn : Int)))), (Value.bool (!decide ((s.askR (s.eraseOk (dn : Int) (bn : Int))) = 0))), undef, (ptr L.bN 0), (ptr L.bN 0), (ptr L.bN 11), L.ub, (eN dn), (ixp L.ub dn), (sli (L.bk.getD dn 0) 0 ((s.ask (s.eraseOk (dn : Int) (bn : Int))).gB) ((s.ask (s.eraseOk (dn : Int) (bn : Int))).gB)), (eN bn), (ptr (L.bk.getD dn 0) (bn * 3)), (ptr (L.bk.getD dn 0) (bn * 3 + 1)), (eI (((s.ask (s.eraseOk (dn : Int) (bn : Int))).bl dn bn).er)), (eI (IntKind.i64.wrap (((s.ask (s.eraseOk (dn : Int) (bn : Int))).bl dn bn).er + 1))), (ptr (L.bk.getD dn 0) (bn * 3)), (ptr (L.bk.getD dn 0) (bn * 3 + 1)), (ptr L.bN 0), (Value.bool (((s.ask (s.eraseOk (dn : Int) (bn : Int))).setB dn bn { (s.ask (s.eraseOk (dn : Int) (bn : Int))).bl dn bn with er := IntKind.i64.wrap (((s.ask (s.eraseOk (dn : Int) (bn : Int))).bl dn bn).er + 1) }).goesR)), (ptr L.bN 0), (ptr L.bN 0), (ptr L.bN 3), (Value.agg #[(eN ((((s.ask (s.eraseOk (dn : Int) (bn : Int))).setB dn bn { (s.ask (s.eraseOk (dn : Int) (bn : Int))).bl dn bn with er := IntKind.i64.wrap (((s.ask (s.eraseOk (dn : Int) (bn : Int))).bl dn bn).er + 1) }).goes).gD)), (eN ((((s.ask (s.eraseOk (dn : Int) (bn : Int))).setB dn bn { (s.ask (s.eraseOk (dn : Int) (bn : Int))).bl dn bn with er := IntKind.i64.wrap (((s.ask (s.eraseOk (dn : Int) (bn : Int))).bl dn bn).er + 1) }).goes).gB)), (eN ((((s.ask (s.eraseOk (dn : Int) (bn : Int))).setB dn bn { (s.ask (s.eraseOk (dn : Int) (bn : Int))).bl dn bn with er := IntKind.i64.wrap (((s.ask (s.eraseOk (dn : Int) (bn : Int))).bl dn bn).er + 1) }).goes).gP)), (sli L.bD 0 ((((s.ask (s.eraseOk (dn : Int) (bn : Int))).setB dn bn { (s.ask (s.eraseOk (dn : Int) (bn : Int))).bl dn bn with er := IntKind.i64.wrap (((s.ask (s.eraseOk (dn : Int) (bn : Int))).bl dn bn).er + 1) }).goes).n) ((((s.ask (s.eraseOk (dn : Int) (bn : Int))).setB dn bn { (s.ask (s.eraseOk (dn : Int) (bn : Int))).bl dn bn with er := IntKind.i64.wrap (((s.ask (s.eraseOk (dn : Int) (bn : Int))).bl dn bn).er + 1) }).goes).n))]), (eN dn), (eN bn), (Value.func (.func 107) #[] #[(ptr b42 0), (ptr b43 0), (ptr b44 0)]), (eN pre.length), (ptr L.bD ((((s.ask (s.eraseOk (dn : Int) (bn : Int))).setB dn bn { (s.ask (s.eraseOk (dn : Int) (bn : Int))).bl dn bn with er := IntKind.i64.wrap (((s.ask (s.eraseOk (dn : Int) (bn : Int))).bl dn bn).er + 1) }).goes).ix dn bn pre.length))] ++ (us 26))) rfl ?_
   refine wB (wQ (pL ?_))
   refine wI (d_load (v := (Value.bool (((s.ask (s.eraseOk (dn : Int) (bn : Int))).setB dn bn { (s.ask (s.eraseOk (dn : Int) (bn : Int))).bl dn bn with er := IntKind.i64.wrap (((s.ask (s.eraseOk (dn : Int) (bn : Int))).bl dn bn).er + 1) }).goesR))) ⟨_, Try.underlying4, rfl⟩ rfl a38 rfl) ?_
   refine wF ([(ptr L.bN 0), (eN dn), (eN bn), (ptr nbx 0), undef, undef, (eN 0), (eN (s.askR (s.eraseOk (dn : Int) (bn : Int)))), (ptr tb 0), undef, (ptr L.bD ((((s.ask (s.eraseOk (dn : Int) (bn : Int))).setB dn bn { (s.ask (s.eraseOk (dn : Int) (bn : Int))).bl dn bn with er := IntKind.i64.wrap (((s.ask (s.eraseOk (dn : Int) (bn : Int))).bl dn bn).er + 1) }).goes).ix dn bn pre.length)), (ptr L.bN 0), (ptr L.bN 0), (eN dn), (eN bn), vT, vT, (ptr L.bN 0), (eN dn), (eN bn), vF, vT, vT, (eN (s.askR (s.eraseOk (dn : Int) (bn : Int)))), (eN (s.askR (s.eraseOk (dn : Int) (bn : Int)))), (Value.bool (!decide ((s.askR (s.eraseOk (dn : Int) (bn : Int))) = 0))), undef, (ptr L.bN 0), (ptr L.bN 0), (ptr L.bN 11), L.ub, (eN dn), (ixp L.ub dn), (sli (L.bk.getD dn 0) 0 ((s.ask (s.eraseOk (dn : Int) (bn : Int))).gB) ((s.ask (s.eraseOk (dn : Int) (bn : Int))).gB)), (eN bn), (ptr (L.bk.getD dn 0) (bn * 3)), (ptr (L.bk.getD dn 0) (bn * 3 + 1)), (eI (((s.ask (s.eraseOk (dn : Int) (bn : Int))).bl dn bn).er)), (eI (IntKind.i64.wrap (((s.ask (s.eraseOk (dn : Int) (bn : Int))).bl dn bn).er + 1))), (ptr (L.bk.getD dn 0) (bn * 3)), (ptr (L.bk.getD dn 0) (bn * 3 + 1)), (ptr L.bN 0), (Value.bool (((s.ask (s.eraseOk (dn : Int) (bn : Int))).setB dn bn { (s.ask (s.eraseOk (dn : Int) (bn : Int))).bl dn bn with er := IntKind.i64.wrap (((s.ask (s.eraseOk (dn : Int) (bn : Int))).bl dn bn).er + 1) }).goesR)), (ptr L.bN 0), (ptr L.bN 0), (ptr L.bN 3), (Value.agg #[(eN ((((s.ask (s.eraseOk (dn : Int) (bn : Int))).setB dn bn { (s.ask (s.eraseOk (dn : Int) (bn : Int))).bl dn bn with er := IntKind.i64.wrap (((s.ask (s.eraseOk (dn : Int) (bn : Int))).bl dn bn).er + 1) }).goes).gD)), (eN ((((s.ask (s.eraseOk (dn : Int) (bn : Int))).setB dn bn { (s.ask (s.eraseOk (dn : Int) (bn : Int))).bl dn bn with er := IntKind.i64.wrap (((s.ask (s.eraseOk (dn : Int) (bn : Int))).bl dn bn).er + 1) }).goes).gB)), (eN ((((s.ask (s.eraseOk (dn : Int) (bn : Int))).setB dn bn { (s.ask (s.eraseOk (dn : Int) (bn : Int))).bl dn bn with er := IntKind.i64.wrap (((s.ask (s.eraseOk (dn : Int) (bn : Int))).bl dn bn).er + 1) }).goes).gP)), (sli L.bD 0 ((((s.ask (s.eraseOk (dn : Int) (bn : Int))).setB dn bn { (s.ask (s.eraseOk (dn : Int) (bn : Int))).bl dn bn with er := IntKind.i64.wrap (((s.ask (s.eraseOk (dn : Int) (bn : Int))).bl dn bn).er + 1) }).goes).n) ((((s.ask (s.eraseOk (dn : Int) (bn : Int))).setB dn bn { (s.ask (s.eraseOk (dn : Int) (bn : Int))).bl dn bn with er := IntKind.i64.wrap (((s.ask (s.eraseOk (dn : Int) (bn : Int))).bl dn bn).er + 1) }).goes).n))]), (eN dn), (eN bn), (Value.func (.func 107) #[] #[(ptr b42 0), (ptr b43 0), (ptr b44 0)]), (eN pre.length), (ptr L.bD ((((s.ask (s.eraseOk (dn : Int) (bn : Int))).setB dn bn { (s.ask (s.eraseOk (dn : Int) (bn : Int))).bl dn bn with er := IntKind.i64.wrap (((s.ask (s.eraseOk (dn : Int) (bn : Int))).bl dn bn).er + 1) }).goes).ix dn bn pre.length)), (Value.bool (((s.ask (s.eraseOk (dn : Int) (bn : Int))).setB dn bn { (s.ask (s.eraseOk (dn : Int) (bn : Int))).bl dn bn with er := IntKind.i64.wrap (((s.ask (s.eraseOk (dn : Int) (bn : Int))).bl dn bn).er + 1) }).goesR))] ++ (us 25)) ?_
   refine wD (tN ?_)
   refine cond_b rfl (fun c1 => ?_) (fun c1 => ?_)
   ·
    have l1_ : (((((s.ask (s.eraseOk (dn : Int) (bn : Int))).setB dn bn { (s.ask (s.eraseOk (dn : Int) (bn : Int))).bl dn bn with er := IntKind.i64.wrap (((s.ask (s.eraseOk (dn : Int) (bn : Int))).bl dn bn).er + 1) }).goes).eraseTo (((s.ask (s.eraseOk (dn : Int) (bn : Int))).setB dn bn { (s.ask (s.eraseOk (dn : Int) (bn : Int))).bl dn bn with er := IntKind.i64.wrap (((s.ask (s.eraseOk (dn : Int) (bn : Int))).bl dn bn).er + 1) }).goesR) dn bn pre.length).dl ((((s.ask (s.eraseOk (dn : Int) (bn : Int))).setB dn bn { (s.ask (s.eraseOk (dn : Int) (bn : Int))).bl dn bn with er := IntKind.i64.wrap (((s.ask (s.eraseOk (dn : Int) (bn : Int))).bl dn bn).er + 1) }).goes).ix dn bn pre.length)).length = 60 := hN.ok.dl _
    have l3_ : ((((s.ask (s.eraseOk (dn : Int) (bn : Int))).setB dn bn { (s.ask (s.eraseOk (dn : Int) (bn : Int))).bl dn bn with er := IntKind.i64.wrap (((s.ask (s.eraseOk (dn : Int) (bn : Int))).bl dn bn).er + 1) }).goes).eraseTo (((s.ask (s.eraseOk (dn : Int) (bn : Int))).setB dn bn { (s.ask (s.eraseOk (dn : Int) (bn : Int))).bl dn bn with er := IntKind.i64.wrap (((s.ask (s.eraseOk (dn : Int) (bn : Int))).bl dn bn).er + 1) }).goesR) dn bn pre.length).mask.length ≤ 1048576 := hN.ok.ml
    refine drawnT (O := (Or1 tb (Or1 nbx (Ors L.S No)))) (n := 12) 10 [0, 0, 2, 6, 0, 0, 32, 96, 224, 510, 1023, 2047] [(0, 53), (1, 54), (2, 55), (3, 56), (4, 57), (5, 58), (6, 59), (7, 60), (8, 61), (9, 62), (10, 63)] [(0, 53), (1, 54), (2, 55), (3, 56), (4, 57), (5, 58), (6, 59), (7, 60), (8, 61), (9, 62)] [0, 1, 2, 3, 4, 5, 6, 7, 8, 9] [] (fun i_ => ([RF.is (Or1 tb (Or1 nbx (Ors L.S No))) (ptr L.bD ((((s.ask (s.eraseOk (dn : Int) (bn : Int))).setB dn bn { (s.ask (s.eraseOk (dn : Int) (bn : Int))).bl dn bn with er := IntKind.i64.wrap (((s.ask (s.eraseOk (dn : Int) (bn : Int))).bl dn bn).er + 1) }).goes).ix dn bn pre.length)), RF.is (Or1 tb (Or1 nbx (Ors L.S No))) (ptr L.bD ((((s.ask (s.eraseOk (dn : Int) (bn : Int))).setB dn bn { (s.ask (s.eraseOk (dn : Int) (bn : Int))).bl dn bn with er := IntKind.i64.wrap (((s.ask (s.eraseOk (dn : Int) (bn : Int))).bl dn bn).er + 1) }).goes).ix dn bn pre.length)), RF.is (Or1 tb (Or1 nbx (Ors L.S No))) (ptr L.bD ((((s.ask (s.eraseOk (dn : Int) (bn : Int))).setB dn bn { (s.ask (s.eraseOk (dn : Int) (bn : Int))).bl dn bn with er := IntKind.i64.wrap (((s.ask (s.eraseOk (dn : Int) (bn : Int))).bl dn bn).er + 1) }).goes).ix dn bn pre.length)), RF.ps (Or1 tb (Or1 nbx (Ors L.S No))) (Or1 L_ (Or1 D_ (Or1 b44 (Or1 b43 (Or1 b42 (Or1 tb (Or1 nbx (Ors L.S X)))))))) (Seq kB (((((s.ask (s.eraseOk (dn : Int) (bn : Int))).setB dn bn { (s.ask (s.eraseOk (dn : Int) (bn : Int))).bl dn bn with er := IntKind.i64.wrap (((s.ask (s.eraseOk (dn : Int) (bn : Int))).bl dn bn).er + 1) }).goes).eraseTo (((s.ask (s.eraseOk (dn : Int) (bn : Int))).setB dn bn { (s.ask (s.eraseOk (dn : Int) (bn : Int))).bl dn bn with er := IntKind.i64.wrap (((s.ask (s.eraseOk (dn : Int) (bn : Int))).bl dn bn).er + 1) }).goesR) dn bn pre.length).dl ((((s.ask (s.eraseOk (dn : Int) (bn : Int))).setB dn bn { (s.ask (s.eraseOk (dn : Int) (bn : Int))).bl dn bn with er := IntKind.i64.wrap (((s.ask (s.eraseOk (dn : Int) (bn : Int))).bl dn bn).er + 1) }).goes).ix dn bn pre.length))) (or1_skip (or1_skip (or1_skip (or1_skip (or1_skip (or1_mono (or1_mono (ors_mono no_any)))))))), RF.ps (Or1 tb (Or1 nbx (Ors L.S No))) (Or1 L_ (Or1 D_ (Or1 b44 (Or1 b43 (Or1 b42 (Or1 tb (Or1 nbx (Ors L.S (Old W.heap.size))))))))) (Seq kB onesW) (or1_skip (or1_skip (or1_skip (or1_skip (or1_skip (or1_mono (or1_mono (ors_mono no_any)))))))), RF.is (Or1 tb (Or1 nbx (Ors L.S No))) (ptr L.bN 0), RF.is (Or1 tb (Or1 nbx (Ors L.S No))) (ptr L.bN 0), RF.is (Or1 tb (Or1 nbx (Ors L.S No))) (ptr L.bN 13), RF.ps (Or1 tb (Or1 nbx (Ors L.S No))) (Or1 L_ (Or1 D_ (Or1 b44 (Or1 b43 (Or1 b42 (Or1 tb (Or1 nbx (Ors L.S X)))))))) (Seq kB (((((s.ask (s.eraseOk (dn : Int) (bn : Int))).setB dn bn { (s.ask (s.eraseOk (dn : Int) (bn : Int))).bl dn bn with er := IntKind.i64.wrap (((s.ask (s.eraseOk (dn : Int) (bn : Int))).bl dn bn).er + 1) }).goes).eraseTo (((s.ask (s.eraseOk (dn : Int) (bn : Int))).setB dn bn { (s.ask (s.eraseOk (dn : Int) (bn : Int))).bl dn bn with er := IntKind.i64.wrap (((s.ask (s.eraseOk (dn : Int) (bn : Int))).bl dn bn).er + 1) }).goesR) dn bn pre.length).mask)) (or1_skip (or1_skip (or1_skip (or1_skip (or1_skip (or1_mono (or1_mono (ors_mono no_any)))))))), RF.ps (Or1 tb (Or1 nbx (Ors L.S No))) (Or1 L_ (Or1 D_ (Or1 b44 (Or1 b43 (Or1 b42 (Or1 tb (Or1 nbx (Ors L.S (Old W.heap.size))))))))) (Seq kB (mixR (((((s.ask (s.eraseOk (dn : Int) (bn : Int))).setB dn bn { (s.ask (s.eraseOk (dn : Int) (bn : Int))).bl dn bn with er := IntKind.i64.wrap (((s.ask (s.eraseOk (dn : Int) (bn : Int))).bl dn bn).er + 1) }).goes).eraseTo (((s.ask (s.eraseOk (dn : Int) (bn : Int))).setB dn bn { (s.ask (s.eraseOk (dn : Int) (bn : Int))).bl dn bn with er := IntKind.i64.wrap (((s.ask (s.eraseOk (dn : Int) (bn : Int))).bl dn bn).er + 1) }).goesR) dn bn pre.length).dl ((((s.ask (s.eraseOk (dn : Int) (bn : Int))).setB dn bn { (s.ask (s.eraseOk (dn : Int) (bn : Int))).bl dn bn with er := IntKind.i64.wrap (((s.ask (s.eraseOk (dn : Int) (bn : Int))).bl dn bn).er + 1) }).goes).ix dn bn pre.length)) onesW (((((s.ask (s.eraseOk (dn : Int) (bn : Int))).setB dn bn { (s.ask (s.eraseOk (dn : Int) (bn : Int))).bl dn bn with er := IntKind.i64.wrap (((s.ask (s.eraseOk (dn : Int) (bn : Int))).bl dn bn).er + 1) }).goes).eraseTo (((s.ask (s.eraseOk (dn : Int) (bn : Int))).setB dn bn { (s.ask (s.eraseOk (dn : Int) (bn : Int))).bl dn bn with er := IntKind.i64.wrap (((s.ask (s.eraseOk (dn : Int) (bn : Int))).bl dn bn).er + 1) }).goesR) dn bn pre.length).mask))) (or1_skip (or1_skip (or1_skip (or1_skip (or1_skip (or1_mono (or1_mono (ors_mono no_any))))))))] : List (RF (Or1 tb (Or1 nbx (Ors L.S No))))).getD i_ (RF.any (Or1 tb (Or1 nbx (Ors L.S No))))) (fun _ w_ => Arr 44 nbx [(ptr L.bN 0)] w_ ∧ Arr 4 tb [(Value.bool (((s.ask (s.eraseOk (dn : Int) (bn : Int))).setB dn bn { (s.ask (s.eraseOk (dn : Int) (bn : Int))).bl dn bn with er := IntKind.i64.wrap (((s.ask (s.eraseOk (dn : Int) (bn : Int))).bl dn bn).er + 1) }).goesR))] w_ ∧ Arr 3 b44 [(eN bn)] w_ ∧ Arr 73 b42 [(eN ((((s.ask (s.eraseOk (dn : Int) (bn : Int))).setB dn bn { (s.ask (s.eraseOk (dn : Int) (bn : Int))).bl dn bn with er := IntKind.i64.wrap (((s.ask (s.eraseOk (dn : Int) (bn : Int))).bl dn bn).er + 1) }).goes).gD)), (eN ((((s.ask (s.eraseOk (dn : Int) (bn : Int))).setB dn bn { (s.ask (s.eraseOk (dn : Int) (bn : Int))).bl dn bn with er := IntKind.i64.wrap (((s.ask (s.eraseOk (dn : Int) (bn : Int))).bl dn bn).er + 1) }).goes).gB)), (eN ((((s.ask (s.eraseOk (dn : Int) (bn : Int))).setB dn bn { (s.ask (s.eraseOk (dn : Int) (bn : Int))).bl dn bn with er := IntKind.i64.wrap (((s.ask (s.eraseOk (dn : Int) (bn : Int))).bl dn bn).er + 1) }).goes).gP)), (sli L.bD 0 ((((s.ask (s.eraseOk (dn : Int) (bn : Int))).setB dn bn { (s.ask (s.eraseOk (dn : Int) (bn : Int))).bl dn bn with er := IntKind.i64.wrap (((s.ask (s.eraseOk (dn : Int) (bn : Int))).bl dn bn).er + 1) }).goes).n) ((((s.ask (s.eraseOk (dn : Int) (bn : Int))).setB dn bn { (s.ask (s.eraseOk (dn : Int) (bn : Int))).bl dn bn with er := IntKind.i64.wrap (((s.ask (s.eraseOk (dn : Int) (bn : Int))).bl dn bn).er + 1) }).goes).n))] w_ ∧ Arr 3 b43 [(eN dn)] w_ ∧ Dead D_ w_ ∧ Dead L_ w_ ∧ Nd L ((((s.ask (s.eraseOk (dn : Int) (bn : Int))).setB dn bn { (s.ask (s.eraseOk (dn : Int) (bn : Int))).bl dn bn with er := IntKind.i64.wrap (((s.ask (s.eraseOk (dn : Int) (bn : Int))).bl dn bn).er + 1) }).goes).eraseTo (((s.ask (s.eraseOk (dn : Int) (bn : Int))).setB dn bn { (s.ask (s.eraseOk (dn : Int) (bn : Int))).bl dn bn with er := IntKind.i64.wrap (((s.ask (s.eraseOk (dn : Int) (bn : Int))).bl dn bn).er + 1) }).goesR) dn bn pre.length) (Or1 L_ (Or1 D_ (Or1 b44 (Or1 b43 (Or1 b42 (Or1 tb (Or1 nbx X))))))) w_) (fun v55 => ([(ptr L.bN 0), (eN dn), (eN bn), (ptr nbx 0), undef, undef, (eN 0), (eN (s.askR (s.eraseOk (dn : Int) (bn : Int)))), (ptr tb 0), undef, (ptr L.bD ((((s.ask (s.eraseOk (dn : Int) (bn : Int))).setB dn bn { (s.ask (s.eraseOk (dn : Int) (bn : Int))).bl dn bn with er := IntKind.i64.wrap (((s.ask (s.eraseOk (dn : Int) (bn : Int))).bl dn bn).er + 1) }).goes).ix dn bn pre.length)), (ptr L.bN 0), (ptr L.bN 0), (eN dn), (eN bn), vT, vT, (ptr L.bN 0), (eN dn), (eN bn), vF, vT, vT, (eN (s.askR (s.eraseOk (dn : Int) (bn : Int)))), (eN (s.askR (s.eraseOk (dn : Int) (bn : Int)))), (Value.bool (!decide ((s.askR (s.eraseOk (dn : Int) (bn : Int))) = 0))), undef, (ptr L.bN 0), (ptr L.bN 0), (ptr L.bN 11), L.ub, (eN dn), (ixp L.ub dn), (sli (L.bk.getD dn 0) 0 ((s.ask (s.eraseOk (dn : Int) (bn : Int))).gB) ((s.ask (s.eraseOk (dn : Int) (bn : Int))).gB)), (eN bn), (ptr (L.bk.getD dn 0) (bn * 3)), (ptr (L.bk.getD dn 0) (bn * 3 + 1)), (eI (((s.ask (s.eraseOk (dn : Int) (bn : Int))).bl dn bn).er)), (eI (IntKind.i64.wrap (((s.ask (s.eraseOk (dn : Int) (bn : Int))).bl dn bn).er + 1))), (ptr (L.bk.getD dn 0) (bn * 3)), (ptr (L.bk.getD dn 0) (bn * 3 + 1)), (ptr L.bN 0), (Value.bool (((s.ask (s.eraseOk (dn : Int) (bn : Int))).setB dn bn { (s.ask (s.eraseOk (dn : Int) (bn : Int))).bl dn bn with er := IntKind.i64.wrap (((s.ask (s.eraseOk (dn : Int) (bn : Int))).bl dn bn).er + 1) }).goesR)), (ptr L.bN 0), (ptr L.bN 0), (ptr L.bN 3), (Value.agg #[(eN ((((s.ask (s.eraseOk (dn : Int) (bn : Int))).setB dn bn { (s.ask (s.eraseOk (dn : Int) (bn : Int))).bl dn bn with er := IntKind.i64.wrap (((s.ask (s.eraseOk (dn : Int) (bn : Int))).bl dn bn).er + 1) }).goes).gD)), (eN ((((s.ask (s.eraseOk (dn : Int) (bn : Int))).setB dn bn { (s.ask (s.eraseOk (dn : Int) (bn : Int))).bl dn bn with er := IntKind.i64.wrap (((s.ask (s.eraseOk (dn : Int) (bn : Int))).bl dn bn).er + 1) }).goes).gB)), (eN ((((s.ask (s.eraseOk (dn : Int) (bn : Int))).setB dn bn { (s.ask (s.eraseOk (dn : Int) (bn : Int))).bl dn bn with er := IntKind.i64.wrap (((s.ask (s.eraseOk (dn : Int) (bn : Int))).bl dn bn).er + 1) }).goes).gP)), (sli L.bD 0 ((((s.ask (s.eraseOk (dn : Int) (bn : Int))).setB dn bn { (s.ask (s.eraseOk (dn : Int) (bn : Int))).bl dn bn with er := IntKind.i64.wrap (((s.ask (s.eraseOk (dn : Int) (bn : Int))).bl dn bn).er + 1) }).goes).n) ((((s.ask (s.eraseOk (dn : Int) (bn : Int))).setB dn bn { (s.ask (s.eraseOk (dn : Int) (bn : Int))).bl dn bn with er := IntKind.i64.wrap (((s.ask (s.eraseOk (dn : Int) (bn : Int))).bl dn bn).er + 1) }).goes).n))]), (eN dn), (eN bn), (Value.func (.func 107) #[] #[(ptr b42 0), (ptr b43 0), (ptr b44 0)]), (eN pre.length), (ptr L.bD ((((s.ask (s.eraseOk (dn : Int) (bn : Int))).setB dn bn { (s.ask (s.eraseOk (dn : Int) (bn : Int))).bl dn bn with er := IntKind.i64.wrap (((s.ask (s.eraseOk (dn : Int) (bn : Int))).bl dn bn).er + 1) }).goes).ix dn bn pre.length)), (Value.bool (((s.ask (s.eraseOk (dn : Int) (bn : Int))).setB dn bn { (s.ask (s.eraseOk (dn : Int) (bn : Int))).bl dn bn with er := IntKind.i64.wrap (((s.ask (s.eraseOk (dn : Int) (bn : Int))).bl dn bn).er + 1) }).goesR)), (v55 0), (v55 1), (v55 2), (v55 3), (v55 4), (v55 5), (v55 6), (v55 7), (v55 8), (v55 9), (v55 10)] ++ (us 14))) (fun v55 => ([(ptr L.bN 0), (eN dn), (eN bn), (ptr nbx 0), undef, undef, (eN 0), (eN (s.askR (s.eraseOk (dn : Int) (bn : Int)))), (ptr tb 0), undef, (ptr L.bD ((((s.ask (s.eraseOk (dn : Int) (bn : Int))).setB dn bn { (s.ask (s.eraseOk (dn : Int) (bn : Int))).bl dn bn with er := IntKind.i64.wrap (((s.ask (s.eraseOk (dn : Int) (bn : Int))).bl dn bn).er + 1) }).goes).ix dn bn pre.length)), (ptr L.bN 0), (ptr L.bN 0), (eN dn), (eN bn), vT, vT, (ptr L.bN 0), (eN dn), (eN bn), vF, vT, vT, (eN (s.askR (s.eraseOk (dn : Int) (bn : Int)))), (eN (s.askR (s.eraseOk (dn : Int) (bn : Int)))), (Value.bool (!decide ((s.askR (s.eraseOk (dn : Int) (bn : Int))) = 0))), undef, (ptr L.bN 0), (ptr L.bN 0), (ptr L.bN 11), L.ub, (eN dn), (ixp L.ub dn), (sli (L.bk.getD dn 0) 0 ((s.ask (s.eraseOk (dn : Int) (bn : Int))).gB) ((s.ask (s.eraseOk (dn : Int) (bn : Int))).gB)), (eN bn), (ptr (L.bk.getD dn 0) (bn * 3)), (ptr (L.bk.getD dn 0) (bn * 3 + 1)), (eI (((s.ask (s.eraseOk (dn : Int) (bn : Int))).bl dn bn).er)), (eI (IntKind.i64.wrap (((s.ask (s.eraseOk (dn : Int) (bn : Int))).bl dn bn).er + 1))), (ptr (L.bk.getD dn 0) (bn * 3)), (ptr (L.bk.getD dn 0) (bn * 3 + 1)), (ptr L.bN 0), (Value.bool (((s.ask (s.eraseOk (dn : Int) (bn : Int))).setB dn bn { (s.ask (s.eraseOk (dn : Int) (bn : Int))).bl dn bn with er := IntKind.i64.wrap (((s.ask (s.eraseOk (dn : Int) (bn : Int))).bl dn bn).er + 1) }).goesR)), (ptr L.bN 0), (ptr L.bN 0), (ptr L.bN 3), (Value.agg #[(eN ((((s.ask (s.eraseOk (dn : Int) (bn : Int))).setB dn bn { (s.ask (s.eraseOk (dn : Int) (bn : Int))).bl dn bn with er := IntKind.i64.wrap (((s.ask (s.eraseOk (dn : Int) (bn : Int))).bl dn bn).er + 1) }).goes).gD)), (eN ((((s.ask (s.eraseOk (dn : Int) (bn : Int))).setB dn bn { (s.ask (s.eraseOk (dn : Int) (bn : Int))).bl dn bn with er := IntKind.i64.wrap (((s.ask (s.eraseOk (dn : Int) (bn : Int))).bl dn bn).er + 1) }).goes).gB)), (eN ((((s.ask (s.eraseOk (dn : Int) (bn : Int))).setB dn bn { (s.ask (s.eraseOk (dn : Int) (bn : Int))).bl dn bn with er := IntKind.i64.wrap (((s.ask (s.eraseOk (dn : Int) (bn : Int))).bl dn bn).er + 1) }).goes).gP)), (sli L.bD 0 ((((s.ask (s.eraseOk (dn : Int) (bn : Int))).setB dn bn { (s.ask (s.eraseOk (dn : Int) (bn : Int))).bl dn bn with er := IntKind.i64.wrap (((s.ask (s.eraseOk (dn : Int) (bn : Int))).bl dn bn).er + 1) }).goes).n) ((((s.ask (s.eraseOk (dn : Int) (bn : Int))).setB dn bn { (s.ask (s.eraseOk (dn : Int) (bn : Int))).bl dn bn with er := IntKind.i64.wrap (((s.ask (s.eraseOk (dn : Int) (bn : Int))).bl dn bn).er + 1) }).goes).n))]), (eN dn), (eN bn), (Value.func (.func 107) #[] #[(ptr b42 0), (ptr b43 0), (ptr b44 0)]), (eN pre.length), (ptr L.bD ((((s.ask (s.eraseOk (dn : Int) (bn : Int))).setB dn bn { (s.ask (s.eraseOk (dn : Int) (bn : Int))).bl dn bn with er := IntKind.i64.wrap (((s.ask (s.eraseOk (dn : Int) (bn : Int))).bl dn bn).er + 1) }).goes).ix dn bn pre.length)), (Value.bool (((s.ask (s.eraseOk (dn : Int) (bn : Int))).setB dn bn { (s.ask (s.eraseOk (dn : Int) (bn : Int))).bl dn bn with er := IntKind.i64.wrap (((s.ask (s.eraseOk (dn : Int) (bn : Int))).bl dn bn).er + 1) }).goesR)), (v55 0), (v55 1), (v55 2), (v55 3), (v55 4), (v55 5), (v55 6), (v55 7), (v55 8), (v55 9)] ++ (us 15))) s_mx kr rfl (by decide) (by rfl) kr kr kr (by rfl) (fun v_ => by kernel_rfl) (fun v_ => by kernel_rfl) (fun _ => fun w_ w2_ h ho => by obtain ⟨r_a13, r_a38, r_a50, r_a48, r_a49, r_aD_, r_aL_, r_hN⟩ := h; exact ⟨r_a13.step0 ho, r_a38.step0 ho, r_a50.step0 ho, r_a48.step0 ho, r_a49.step0 ho, r_aD_.step0 ho, r_aL_.step0 ho, r_hN.step0 ho⟩) ⟨a13, a38, a50, a48, a49, aD_, aL_, hN⟩ ?_ ?_ ?_
    ·
     refine ls_cons ?_ ?_
     ·
      intro v55 lo hi w_ k_ hO hd _ _ hk_ _ hR hold
      obtain ⟨r_a13, r_a38, r_a50, r_a48, r_a49, r_aD_, r_aL_, r_hN⟩ := hR
      clear hd hold
      refine ⟨_, rfl, gd rfl ?_⟩
      exact Does.is (d_move rfl)
     refine ls_cons ?_ ?_
     ·
      intro v55 lo hi w_ k_ hO hd _ _ hk_ _ hR hold
      obtain ⟨r_a13, r_a38, r_a50, r_a48, r_a49, r_aD_, r_aL_, r_hN⟩ := hR
      clear hd hold
      refine ⟨_, rfl, gd rfl ?_⟩
      exact Does.is (d_move rfl)
     refine ls_cons ?_ ?_
     ·
      intro v55 lo hi w_ k_ hO hd _ _ hk_ _ hR hold
      obtain ⟨r_a13, r_a38, r_a50, r_a48, r_a49, r_aD_, r_aL_, r_hN⟩ := hR
      have e1 : v55 1 = (ptr L.bD ((((s.ask (s.eraseOk (dn : Int) (bn : Int))).setB dn bn { (s.ask (s.eraseOk (dn : Int) (bn : Int))).bl dn bn with er := IntKind.i64.wrap (((s.ask (s.eraseOk (dn : Int) (bn : Int))).bl dn bn).er + 1) }).goes).ix dn bn pre.length)) := hd 1 kr
      clear hd hold
      refine ⟨_, rfl, gd rfl ?_⟩
      exact Does.is (d_nilCheck (b := L.bD) (o := ((((s.ask (s.eraseOk (dn : Int) (bn : Int))).setB dn bn { (s.ask (s.eraseOk (dn : Int) (bn : Int))).bl dn bn with er := IntKind.i64.wrap (((s.ask (s.eraseOk (dn : Int) (bn : Int))).bl dn bn).er + 1) }).goes).ix dn bn pre.length)) e1)
     refine ls_cons ?_ ?_
     ·
      intro v55 lo hi w_ k_ hO hd _ _ hk_ _ hR hold
      obtain ⟨r_a13, r_a38, r_a50, r_a48, r_a49, r_aD_, r_aL_, r_hN⟩ := hR
      have e2 : v55 2 = (ptr L.bD ((((s.ask (s.eraseOk (dn : Int) (bn : Int))).setB dn bn { (s.ask (s.eraseOk (dn : Int) (bn : Int))).bl dn bn with er := IntKind.i64.wrap (((s.ask (s.eraseOk (dn : Int) (bn : Int))).bl dn bn).er + 1) }).goes).ix dn bn pre.length)) := hd 2 kr
      clear hd hold
      refine ⟨_, rfl, gd rfl ?_⟩
      refine Does.mono (nd_ldD (i := ((((s.ask (s.eraseOk (dn : Int) (bn : Int))).setB dn bn { (s.ask (s.eraseOk (dn : Int) (bn : Int))).bl dn bn with er := IntKind.i64.wrap (((s.ask (s.eraseOk (dn : Int) (bn : Int))).bl dn bn).er + 1) }).goes).ix dn bn pre.length)) (Y := (Or1 L_ (Or1 D_ (Or1 b44 (Or1 b43 (Or1 b42 (Or1 tb (Or1 nbx (Ors L.S X))))))))) r_hN (xo_or1 (xo_or1 (xo_or1 (xo_or1 (xo_or1 (xo_or1 (xo_or1 xo_s))))))) ⟨_, Try.underlying22, rfl⟩ e2 (NS.ix_lt (by first | assumption | omega) (by first | assumption | omega) (by first | assumption | omega))) (fun u w' h => ⟨h.2 ▸ h.1, h.2 ▸ Only.refl _ _⟩)
     refine ls_cons ?_ ?_
     ·
      intro v55 lo hi w_ k_ hO hd _ _ hk_ _ hR hold
      obtain ⟨r_a13, r_a38, r_a50, r_a48, r_a49, r_aD_, r_aL_, r_hN⟩ := hR
      clear hd hold
      refine ⟨_, rfl, gd rfl ?_⟩
      refine Does.mono (R := ROw 5 eB onesW w_) ?_ (fun u w' h => ⟨(h.ps).1.less (or1_old r_aL_.lt (or1_old r_aD_.lt (or1_old r_a50.lt (or1_old r_a49.lt (or1_old r_a48.lt (or1_old r_a38.lt (or1_old r_a13.lt (ors_old r_hN.lt (old_old (Nat.le_trans oW.size hO.size)))))))))), (h.ps).2⟩)
      exact d_call (xl := []) (al := []) Try.func51 kr rfl rfl rfl (blank_ok _)
     refine ls_cons ?_ ?_
     ·
      intro v55 lo hi w_ k_ hO hd _ _ hk_ _ hR hold
      obtain ⟨r_a13, r_a38, r_a50, r_a48, r_a49, r_aD_, r_aL_, r_hN⟩ := hR
      clear hd hold
      refine ⟨_, rfl, gd rfl ?_⟩
      exact Does.is (d_load (v := (ptr L.bN 0)) ⟨_, Try.underlying44, rfl⟩ rfl r_a13 rfl)
     refine ls_cons ?_ ?_
     ·
      intro v55 lo hi w_ k_ hO hd _ _ hk_ _ hR hold
      obtain ⟨r_a13, r_a38, r_a50, r_a48, r_a49, r_aD_, r_aL_, r_hN⟩ := hR
      have e5 : v55 5 = (ptr L.bN 0) := hd 5 kr
      clear hd hold
      refine ⟨_, rfl, gd rfl ?_⟩
      exact Does.is (d_nilCheck (b := L.bN) (o := 0) e5)
     refine ls_cons ?_ ?_
     ·
      intro v55 lo hi w_ k_ hO hd _ _ hk_ _ hR hold
      obtain ⟨r_a13, r_a38, r_a50, r_a48, r_a49, r_aD_, r_aL_, r_hN⟩ := hR
      have e6 : v55 6 = (ptr L.bN 0) := hd 6 kr
      clear hd hold
      refine ⟨_, rfl, gd rfl ?_⟩
      exact Does.is (d_fieldAddr (j := 13) Try.underlying81 rfl s_ti22 (by decide) e6 rfl)
     refine ls_cons ?_ ?_
     ·
      intro v55 lo hi w_ k_ hO hd _ _ hk_ _ hR hold
      obtain ⟨r_a13, r_a38, r_a50, r_a48, r_a49, r_aD_, r_aL_, r_hN⟩ := hR
      have e7 : v55 7 = (ptr L.bN 13) := hd 7 kr
      clear hd hold
      refine ⟨_, rfl, gd rfl ?_⟩
      refine Does.mono (nd_ldm (Y := (Or1 L_ (Or1 D_ (Or1 b44 (Or1 b43 (Or1 b42 (Or1 tb (Or1 nbx (Ors L.S X))))))))) r_hN (xo_or1 (xo_or1 (xo_or1 (xo_or1 (xo_or1 (xo_or1 (xo_or1 xo_s))))))) ⟨_, Try.underlying22, rfl⟩ e7) (fun u w' h => ⟨h.2 ▸ h.1, h.2 ▸ Only.refl _ _⟩)
     refine ls_cons ?_ ?_
     ·
      intro v55 lo hi w_ k_ hO hd _ _ hk_ _ hR hold
      obtain ⟨r_a13, r_a38, r_a50, r_a48, r_a49, r_aD_, r_aL_, r_hN⟩ := hR
      have d3 : Ps (Or1 L_ (Or1 D_ (Or1 b44 (Or1 b43 (Or1 b42 (Or1 tb (Or1 nbx (Ors L.S X)))))))) (Seq kB (((((s.ask (s.eraseOk (dn : Int) (bn : Int))).setB dn bn { (s.ask (s.eraseOk (dn : Int) (bn : Int))).bl dn bn with er := IntKind.i64.wrap (((s.ask (s.eraseOk (dn : Int) (bn : Int))).bl dn bn).er + 1) }).goes).eraseTo (((s.ask (s.eraseOk (dn : Int) (bn : Int))).setB dn bn { (s.ask (s.eraseOk (dn : Int) (bn : Int))).bl dn bn with er := IntKind.i64.wrap (((s.ask (s.eraseOk (dn : Int) (bn : Int))).bl dn bn).er + 1) }).goesR) dn bn pre.length).dl ((((s.ask (s.eraseOk (dn : Int) (bn : Int))).setB dn bn { (s.ask (s.eraseOk (dn : Int) (bn : Int))).bl dn bn with er := IntKind.i64.wrap (((s.ask (s.eraseOk (dn : Int) (bn : Int))).bl dn bn).er + 1) }).goes).ix dn bn pre.length)) (v55 3)) w_ := hd 3 kr
      have d4 : Ps (Or1 L_ (Or1 D_ (Or1 b44 (Or1 b43 (Or1 b42 (Or1 tb (Or1 nbx (Ors L.S (Old W.heap.size))))))))) (Seq kB onesW (v55 4)) w_ := hd 4 kr
      have d8 : Ps (Or1 L_ (Or1 D_ (Or1 b44 (Or1 b43 (Or1 b42 (Or1 tb (Or1 nbx (Ors L.S X)))))))) (Seq kB (((((s.ask (s.eraseOk (dn : Int) (bn : Int))).setB dn bn { (s.ask (s.eraseOk (dn : Int) (bn : Int))).bl dn bn with er := IntKind.i64.wrap (((s.ask (s.eraseOk (dn : Int) (bn : Int))).bl dn bn).er + 1) }).goes).eraseTo (((s.ask (s.eraseOk (dn : Int) (bn : Int))).setB dn bn { (s.ask (s.eraseOk (dn : Int) (bn : Int))).bl dn bn with er := IntKind.i64.wrap (((s.ask (s.eraseOk (dn : Int) (bn : Int))).bl dn bn).er + 1) }).goesR) dn bn pre.length).mask) (v55 8)) w_ := hd 8 kr
      clear hd hold
      refine ⟨_, rfl, gd rfl ?_⟩
      refine Does.mono (R := ROw 5 eB (mixR (((((s.ask (s.eraseOk (dn : Int) (bn : Int))).setB dn bn { (s.ask (s.eraseOk (dn : Int) (bn : Int))).bl dn bn with er := IntKind.i64.wrap (((s.ask (s.eraseOk (dn : Int) (bn : Int))).bl dn bn).er + 1) }).goes).eraseTo (((s.ask (s.eraseOk (dn : Int) (bn : Int))).setB dn bn { (s.ask (s.eraseOk (dn : Int) (bn : Int))).bl dn bn with er := IntKind.i64.wrap (((s.ask (s.eraseOk (dn : Int) (bn : Int))).bl dn bn).er + 1) }).goesR) dn bn pre.length).dl ((((s.ask (s.eraseOk (dn : Int) (bn : Int))).setB dn bn { (s.ask (s.eraseOk (dn : Int) (bn : Int))).bl dn bn with er := IntKind.i64.wrap (((s.ask (s.eraseOk (dn : Int) (bn : Int))).bl dn bn).er + 1) }).goes).ix dn bn pre.length)) onesW (((((s.ask (s.eraseOk (dn : Int) (bn : Int))).setB dn bn { (s.ask (s.eraseOk (dn : Int) (bn : Int))).bl dn bn with er := IntKind.i64.wrap (((s.ask (s.eraseOk (dn : Int) (bn : Int))).bl dn bn).er + 1) }).goes).eraseTo (((s.ask (s.eraseOk (dn : Int) (bn : Int))).setB dn bn { (s.ask (s.eraseOk (dn : Int) (bn : Int))).bl dn bn with er := IntKind.i64.wrap (((s.ask (s.eraseOk (dn : Int) (bn : Int))).bl dn bn).er + 1) }).goesR) dn bn pre.length).mask)) w_) ?_ (fun u w' h => ⟨(h.ps).1.less (or1_old r_aL_.lt (or1_old r_aD_.lt (or1_old r_a50.lt (or1_old r_a49.lt (or1_old r_a48.lt (or1_old r_a38.lt (or1_old r_a13.lt (ors_old r_hN.lt (old_old (Nat.le_trans oW.size hO.size)))))))))), (h.ps).2⟩)
      exact d_call (xl := [.tmp 56, .tmp 57, .tmp 61]) (al := [(v55 3), (v55 4), (v55 8)]) Try.func83 kr rfl rfl rfl (bitsMix_ok (((((s.ask (s.eraseOk (dn : Int) (bn : Int))).setB dn bn { (s.ask (s.eraseOk (dn : Int) (bn : Int))).bl dn bn with er := IntKind.i64.wrap (((s.ask (s.eraseOk (dn : Int) (bn : Int))).bl dn bn).er + 1) }).goes).eraseTo (((s.ask (s.eraseOk (dn : Int) (bn : Int))).setB dn bn { (s.ask (s.eraseOk (dn : Int) (bn : Int))).bl dn bn with er := IntKind.i64.wrap (((s.ask (s.eraseOk (dn : Int) (bn : Int))).bl dn bn).er + 1) }).goesR) dn bn pre.length).dl ((((s.ask (s.eraseOk (dn : Int) (bn : Int))).setB dn bn { (s.ask (s.eraseOk (dn : Int) (bn : Int))).bl dn bn with er := IntKind.i64.wrap (((s.ask (s.eraseOk (dn : Int) (bn : Int))).bl dn bn).er + 1) }).goes).ix dn bn pre.length)) onesW (((((s.ask (s.eraseOk (dn : Int) (bn : Int))).setB dn bn { (s.ask (s.eraseOk (dn : Int) (bn : Int))).bl dn bn with er := IntKind.i64.wrap (((s.ask (s.eraseOk (dn : Int) (bn : Int))).bl dn bn).er + 1) }).goes).eraseTo (((s.ask (s.eraseOk (dn : Int) (bn : Int))).setB dn bn { (s.ask (s.eraseOk (dn : Int) (bn : Int))).bl dn bn with er := IntKind.i64.wrap (((s.ask (s.eraseOk (dn : Int) (bn : Int))).bl dn bn).er + 1) }).goesR) dn bn pre.length).mask) (v55 3) (v55 4) (v55 8) _ (Ps.no d3) (Ps.no d4) (Ps.no d8) fo (by have := onesW_len; first | omega | (simp; done) | (simp; omega)) fo)
     exact ls_nil
    ·
     exact ms_nil
    intro v55 lo_ hi_ w56 o57 hd iv_ hR
    have e0 : v55 0 = (ptr L.bD ((((s.ask (s.eraseOk (dn : Int) (bn : Int))).setB dn bn { (s.ask (s.eraseOk (dn : Int) (bn : Int))).bl dn bn with er := IntKind.i64.wrap (((s.ask (s.eraseOk (dn : Int) (bn : Int))).bl dn bn).er + 1) }).goes).ix dn bn pre.length)) := hd 0 (by decide)
    have e1 : v55 1 = (ptr L.bD ((((s.ask (s.eraseOk (dn : Int) (bn : Int))).setB dn bn { (s.ask (s.eraseOk (dn : Int) (bn : Int))).bl dn bn with er := IntKind.i64.wrap (((s.ask (s.eraseOk (dn : Int) (bn : Int))).bl dn bn).er + 1) }).goes).ix dn bn pre.length)) := hd 1 (by decide)
    have e2 : v55 2 = (ptr L.bD ((((s.ask (s.eraseOk (dn : Int) (bn : Int))).setB dn bn { (s.ask (s.eraseOk (dn : Int) (bn : Int))).bl dn bn with er := IntKind.i64.wrap (((s.ask (s.eraseOk (dn : Int) (bn : Int))).bl dn bn).er + 1) }).goes).ix dn bn pre.length)) := hd 2 (by decide)
    have e5 : v55 5 = (ptr L.bN 0) := hd 5 (by decide)
    have e6 : v55 6 = (ptr L.bN 0) := hd 6 (by decide)
    have e7 : v55 7 = (ptr L.bN 13) := hd 7 (by decide)
    have f_v55_3 : Ps (Or1 L_ (Or1 D_ (Or1 b44 (Or1 b43 (Or1 b42 (Or1 tb (Or1 nbx (Ors L.S X)))))))) (Seq kB (((((s.ask (s.eraseOk (dn : Int) (bn : Int))).setB dn bn { (s.ask (s.eraseOk (dn : Int) (bn : Int))).bl dn bn with er := IntKind.i64.wrap (((s.ask (s.eraseOk (dn : Int) (bn : Int))).bl dn bn).er + 1) }).goes).eraseTo (((s.ask (s.eraseOk (dn : Int) (bn : Int))).setB dn bn { (s.ask (s.eraseOk (dn : Int) (bn : Int))).bl dn bn with er := IntKind.i64.wrap (((s.ask (s.eraseOk (dn : Int) (bn : Int))).bl dn bn).er + 1) }).goesR) dn bn pre.length).dl ((((s.ask (s.eraseOk (dn : Int) (bn : Int))).setB dn bn { (s.ask (s.eraseOk (dn : Int) (bn : Int))).bl dn bn with er := IntKind.i64.wrap (((s.ask (s.eraseOk (dn : Int) (bn : Int))).bl dn bn).er + 1) }).goes).ix dn bn pre.length)) (v55 3)) w56 := hd 3 (by decide)
    have f_v55_4 : Ps (Or1 L_ (Or1 D_ (Or1 b44 (Or1 b43 (Or1 b42 (Or1 tb (Or1 nbx (Ors L.S (Old W.heap.size))))))))) (Seq kB onesW (v55 4)) w56 := hd 4 (by decide)
    have f_v55_8 : Ps (Or1 L_ (Or1 D_ (Or1 b44 (Or1 b43 (Or1 b42 (Or1 tb (Or1 nbx (Ors L.S X)))))))) (Seq kB (((((s.ask (s.eraseOk (dn : Int) (bn : Int))).setB dn bn { (s.ask (s.eraseOk (dn : Int) (bn : Int))).bl dn bn with er := IntKind.i64.wrap (((s.ask (s.eraseOk (dn : Int) (bn : Int))).bl dn bn).er + 1) }).goes).eraseTo (((s.ask (s.eraseOk (dn : Int) (bn : Int))).setB dn bn { (s.ask (s.eraseOk (dn : Int) (bn : Int))).bl dn bn with er := IntKind.i64.wrap (((s.ask (s.eraseOk (dn : Int) (bn : Int))).bl dn bn).er + 1) }).goesR) dn bn pre.length).mask) (v55 8)) w56 := hd 8 (by decide)
    have f_v55_9 : Ps (Or1 L_ (Or1 D_ (Or1 b44 (Or1 b43 (Or1 b42 (Or1 tb (Or1 nbx (Ors L.S (Old W.heap.size))))))))) (Seq kB (mixR (((((s.ask (s.eraseOk (dn : Int) (bn : Int))).setB dn bn { (s.ask (s.eraseOk (dn : Int) (bn : Int))).bl dn bn with er := IntKind.i64.wrap (((s.ask (s.eraseOk (dn : Int) (bn : Int))).bl dn bn).er + 1) }).goes).eraseTo (((s.ask (s.eraseOk (dn : Int) (bn : Int))).setB dn bn { (s.ask (s.eraseOk (dn : Int) (bn : Int))).bl dn bn with er := IntKind.i64.wrap (((s.ask (s.eraseOk (dn : Int) (bn : Int))).bl dn bn).er + 1) }).goesR) dn bn pre.length).dl ((((s.ask (s.eraseOk (dn : Int) (bn : Int))).setB dn bn { (s.ask (s.eraseOk (dn : Int) (bn : Int))).bl dn bn with er := IntKind.i64.wrap (((s.ask (s.eraseOk (dn : Int) (bn : Int))).bl dn bn).er + 1) }).goes).ix dn bn pre.length)) onesW (((((s.ask (s.eraseOk (dn : Int) (bn : Int))).setB dn bn { (s.ask (s.eraseOk (dn : Int) (bn : Int))).bl dn bn with er := IntKind.i64.wrap (((s.ask (s.eraseOk (dn : Int) (bn : Int))).bl dn bn).er + 1) }).goes).eraseTo (((s.ask (s.eraseOk (dn : Int) (bn : Int))).setB dn bn { (s.ask (s.eraseOk (dn : Int) (bn : Int))).bl dn bn with er := IntKind.i64.wrap (((s.ask (s.eraseOk (dn : Int) (bn : Int))).bl dn bn).er + 1) }).goesR) dn bn pre.length).mask)) (v55 9)) w56 := hd 9 (by decide)
    clear hd iv_ lo_ hi_
    refine wpL.flat ([(ptr L.bN 0), (eN dn), (eN bn), (ptr nbx 0), undef, undef, (eN 0), (eN (s.askR (s.eraseOk (dn : Int) (bn : Int)))), (ptr tb 0), undef, (ptr L.bD ((((s.ask (s.eraseOk (dn : Int) (bn : Int))).setB dn bn { (s.ask (s.eraseOk (dn : Int) (bn : Int))).bl dn bn with er := IntKind.i64.wrap (((s.ask (s.eraseOk (dn : Int) (bn : Int))).bl dn bn).er + 1) }).goes).ix dn bn pre.length)), (ptr L.bN 0), (ptr L.bN 0), (eN dn), (eN bn), vT, vT, (ptr L.bN 0), (eN dn), (eN bn), vF, vT, vT, (eN (s.askR (s.eraseOk (dn : Int) (bn : Int)))), (eN (s.askR (s.eraseOk (dn : Int) (bn : Int)))), (Value.bool (!decide ((s.askR (s.eraseOk (dn : Int) (bn : Int))) = 0))), undef, (ptr L.bN 0), (ptr L.bN 0), (ptr L.bN 11), L.ub, (eN dn), (ixp L.ub dn), (sli (L.bk.getD dn 0) 0 ((s.ask (s.eraseOk (dn : Int) (bn : Int))).gB) ((s.ask (s.eraseOk (dn : Int) (bn : Int))).gB)), (eN bn), (ptr (L.bk.getD dn 0) (bn * 3)), (ptr (L.bk.getD dn 0) (bn * 3 + 1)), (eI (((s.ask (s.eraseOk (dn : Int) (bn : Int))).bl dn bn).er)), (eI (IntKind.i64.wrap (((s.ask (s.eraseOk (dn : Int) (bn : Int))).bl dn bn).er + 1))), (ptr (L.bk.getD dn 0) (bn * 3)), (ptr (L.bk.getD dn 0) (bn * 3 + 1)), (ptr L.bN 0), (Value.bool (((s.ask (s.eraseOk (dn : Int) (bn : Int))).setB dn bn { (s.ask (s.eraseOk (dn : Int) (bn : Int))).bl dn bn with er := IntKind.i64.wrap (((s.ask (s.eraseOk (dn : Int) (bn : Int))).bl dn bn).er + 1) }).goesR)), (ptr L.bN 0), (ptr L.bN 0), (ptr L.bN 3), (Value.agg #[(eN ((((s.ask (s.eraseOk (dn : Int) (bn : Int))).setB dn bn { (s.ask (s.eraseOk (dn : Int) (bn : Int))).bl dn bn with er := IntKind.i64.wrap (((s.ask (s.eraseOk (dn : Int) (bn : Int))).bl dn bn).er + 1) }).goes).gD)), (eN ((((s.ask (s.eraseOk (dn : Int) (bn : Int))).setB dn bn { (s.ask (s.eraseOk (dn : Int) (bn : Int))).bl dn bn with er := IntKind.i64.wrap (((s.ask (s.eraseOk (dn : Int) (bn : Int))).bl dn bn).er + 1) }).goes).gB)), (eN ((((s.ask (s.eraseOk (dn : Int) (bn : Int))).setB dn bn { (s.ask (s.eraseOk (dn : Int) (bn : Int))).bl dn bn with er := IntKind.i64.wrap (((s.ask (s.eraseOk (dn : Int) (bn : Int))).bl dn bn).er + 1) }).goes).gP)), (sli L.bD 0 ((((s.ask (s.eraseOk (dn : Int) (bn : Int))).setB dn bn { (s.ask (s.eraseOk (dn : Int) (bn : Int))).bl dn bn with er := IntKind.i64.wrap (((s.ask (s.eraseOk (dn : Int) (bn : Int))).bl dn bn).er + 1) }).goes).n) ((((s.ask (s.eraseOk (dn : Int) (bn : Int))).setB dn bn { (s.ask (s.eraseOk (dn : Int) (bn : Int))).bl dn bn with er := IntKind.i64.wrap (((s.ask (s.eraseOk (dn : Int) (bn : Int))).bl dn bn).er + 1) }).goes).n))]), (eN dn), (eN bn), (Value.func (.func 107) #[] #[(ptr b42 0), (ptr b43 0), (ptr b44 0)]), (eN pre.length), (ptr L.bD ((((s.ask (s.eraseOk (dn : Int) (bn : Int))).setB dn bn { (s.ask (s.eraseOk (dn : Int) (bn : Int))).bl dn bn with er := IntKind.i64.wrap (((s.ask (s.eraseOk (dn : Int) (bn : Int))).bl dn bn).er + 1) }).goes).ix dn bn pre.length)), (Value.bool (((s.ask (s.eraseOk (dn : Int) (bn : Int))).setB dn bn { (s.ask (s.eraseOk (dn : Int) (bn : Int))).bl dn bn with er := IntKind.i64.wrap (((s.ask (s.eraseOk (dn : Int) (bn : Int))).bl dn bn).er + 1) }).goesR)), (ptr L.bD ((((s.ask (s.eraseOk (dn : Int) (bn : Int))).setB dn bn { (s.ask (s.eraseOk (dn : Int) (bn : Int))).bl dn bn with er := IntKind.i64.wrap (((s.ask (s.eraseOk (dn : Int) (bn : Int))).bl dn bn).er + 1) }).goes).ix dn bn pre.length)), (ptr L.bD ((((s.ask (s.eraseOk (dn : Int) (bn : Int))).setB dn bn { (s.ask (s.eraseOk (dn : Int) (bn : Int))).bl dn bn with er := IntKind.i64.wrap (((s.ask (s.eraseOk (dn : Int) (bn : Int))).bl dn bn).er + 1) }).goes).ix dn bn pre.length)), (ptr L.bD ((((s.ask (s.eraseOk (dn : Int) (bn : Int))).setB dn bn { (s.ask (s.eraseOk (dn : Int) (bn : Int))).bl dn bn with er := IntKind.i64.wrap (((s.ask (s.eraseOk (dn : Int) (bn : Int))).bl dn bn).er + 1) }).goes).ix dn bn pre.length)), (v55 3), (v55 4), (ptr L.bN 0), (ptr L.bN 0), (ptr L.bN 13), (v55 8), (v55 9)] ++ (us 15)) (by rw [e0, e1, e2, e5, e6, e7] <;> rfl) ?_
    clear e0 e1 e2 e5 e6 e7
    obtain ⟨xr_a13, xr_a38, xr_a50, xr_a48, xr_a49, xr_aD_, xr_aL_, xr_hN⟩ := hR
    replace a13 : Arr 44 nbx [(ptr L.bN 0)] w56 := xr_a13
    replace a38 : Arr 4 tb [(Value.bool (((s.ask (s.eraseOk (dn : Int) (bn : Int))).setB dn bn { (s.ask (s.eraseOk (dn : Int) (bn : Int))).bl dn bn with er := IntKind.i64.wrap (((s.ask (s.eraseOk (dn : Int) (bn : Int))).bl dn bn).er + 1) }).goesR))] w56 := xr_a38
    replace a50 : Arr 3 b44 [(eN bn)] w56 := xr_a50
    replace a48 : Arr 73 b42 [(eN ((((s.ask (s.eraseOk (dn : Int) (bn : Int))).setB dn bn { (s.ask (s.eraseOk (dn : Int) (bn : Int))).bl dn bn with er := IntKind.i64.wrap (((s.ask (s.eraseOk (dn : Int) (bn : Int))).bl dn bn).er + 1) }).goes).gD)), (eN ((((s.ask (s.eraseOk (dn : Int) (bn : Int))).setB dn bn { (s.ask (s.eraseOk (dn : Int) (bn : Int))).bl dn bn with er := IntKind.i64.wrap (((s.ask (s.eraseOk (dn : Int) (bn : Int))).bl dn bn).er + 1) }).goes).gB)), (eN ((((s.ask (s.eraseOk (dn : Int) (bn : Int))).setB dn bn { (s.ask (s.eraseOk (dn : Int) (bn : Int))).bl dn bn with er := IntKind.i64.wrap (((s.ask (s.eraseOk (dn : Int) (bn : Int))).bl dn bn).er + 1) }).goes).gP)), (sli L.bD 0 ((((s.ask (s.eraseOk (dn : Int) (bn : Int))).setB dn bn { (s.ask (s.eraseOk (dn : Int) (bn : Int))).bl dn bn with er := IntKind.i64.wrap (((s.ask (s.eraseOk (dn : Int) (bn : Int))).bl dn bn).er + 1) }).goes).n) ((((s.ask (s.eraseOk (dn : Int) (bn : Int))).setB dn bn { (s.ask (s.eraseOk (dn : Int) (bn : Int))).bl dn bn with er := IntKind.i64.wrap (((s.ask (s.eraseOk (dn : Int) (bn : Int))).bl dn bn).er + 1) }).goes).n))] w56 := xr_a48
    replace a49 : Arr 3 b43 [(eN dn)] w56 := xr_a49
    replace aD_ : Dead D_ w56 := xr_aD_
    replace aL_ : Dead L_ w56 := xr_aL_
    replace hN := xr_hN
    clear xr_a13 xr_a38 xr_a50 xr_a48 xr_a49 xr_aD_ xr_aL_ xr_hN
    replace oW := oW.tail o57 (tl_new g_oW_tb (tl_new g_oW_nbx (tl_sin (fun k h => h) tl_no)))
    replace o54 := o54.tail o57 (tl_in in1 (tl_in (in2 in1) (tl_sin (sub2 (sub2 sub1)) tl_no)))
    replace oR_ := oR_.tail o57 (tl_in (Or.inl in1) (tl_in (Or.inl (in2 in1)) (tl_sin (fun k h => Or.inl ((sub2 (sub2 sub1)) k h)) tl_no)))
    refine wI (d_nilCheck (b := L.bD) (o := ((((s.ask (s.eraseOk (dn : Int) (bn : Int))).setB dn bn { (s.ask (s.eraseOk (dn : Int) (bn : Int))).bl dn bn with er := IntKind.i64.wrap (((s.ask (s.eraseOk (dn : Int) (bn : Int))).bl dn bn).er + 1) }).goes).ix dn bn pre.length)) rfl) ?_
    refine wO (nd_stD (i := ((((s.ask (s.eraseOk (dn : Int) (bn : Int))).setB dn bn { (s.ask (s.eraseOk (dn : Int) (bn : Int))).bl dn bn with er := IntKind.i64.wrap (((s.ask (s.eraseOk (dn : Int) (bn : Int))).bl dn bn).er + 1) }).goes).ix dn bn pre.length)) (Y := (Or1 L_ (Or1 D_ (Or1 b44 (Or1 b43 (Or1 b42 (Or1 tb (Or1 nbx (Ors L.S X))))))))) (l := (mixR (((((s.ask (s.eraseOk (dn : Int) (bn : Int))).setB dn bn { (s.ask (s.eraseOk (dn : Int) (bn : Int))).bl dn bn with er := IntKind.i64.wrap (((s.ask (s.eraseOk (dn : Int) (bn : Int))).bl dn bn).er + 1) }).goes).eraseTo (((s.ask (s.eraseOk (dn : Int) (bn : Int))).setB dn bn { (s.ask (s.eraseOk (dn : Int) (bn : Int))).bl dn bn with er := IntKind.i64.wrap (((s.ask (s.eraseOk (dn : Int) (bn : Int))).bl dn bn).er + 1) }).goesR) dn bn pre.length).dl ((((s.ask (s.eraseOk (dn : Int) (bn : Int))).setB dn bn { (s.ask (s.eraseOk (dn : Int) (bn : Int))).bl dn bn with er := IntKind.i64.wrap (((s.ask (s.eraseOk (dn : Int) (bn : Int))).bl dn bn).er + 1) }).goes).ix dn bn pre.length)) onesW (((((s.ask (s.eraseOk (dn : Int) (bn : Int))).setB dn bn { (s.ask (s.eraseOk (dn : Int) (bn : Int))).bl dn bn with er := IntKind.i64.wrap (((s.ask (s.eraseOk (dn : Int) (bn : Int))).bl dn bn).er + 1) }).goes).eraseTo (((s.ask (s.eraseOk (dn : Int) (bn : Int))).setB dn bn { (s.ask (s.eraseOk (dn : Int) (bn : Int))).bl dn bn with er := IntKind.i64.wrap (((s.ask (s.eraseOk (dn : Int) (bn : Int))).bl dn bn).er + 1) }).goesR) dn bn pre.length).mask))) hN (ox_or1 (ox_or1 (ox_or1 (ox_or1 (ox_or1 (ox_or1 (ox_or1 ox_s))))))) s_ti22 rfl rfl (f_v55_9.less (Y := (Or1 L_ (Or1 D_ (Or1 b44 (Or1 b43 (Or1 b42 (Or1 tb (Or1 nbx (Ors L.S X))))))))) (xx_or1 (xx_or1 (xx_or1 (xx_or1 (xx_or1 (xx_or1 (xx_or1 (xx_ors (lt_old hX)))))))))) (NS.ix_lt (by first | assumption | omega) (by first | assumption | omega) (by first | assumption | omega)) (mixR60 l1_ onesW_len)) ?_
    rintro _ w58 ⟨a59, o60⟩
    replace a13 := a13.step o60 (hN.dis _ (in2 (in2 (in2 (in2 (in2 (in2 in1)))))))
    replace a38 := a38.step o60 (hN.dis _ (in2 (in2 (in2 (in2 (in2 in1))))))
    replace a50 := a50.step o60 (hN.dis _ (in2 (in2 in1)))
    replace a48 := a48.step o60 (hN.dis _ (in2 (in2 (in2 (in2 in1)))))
    replace a49 := a49.step o60 (hN.dis _ (in2 (in2 (in2 in1))))
    replace aD_ := aD_.step o60 (hN.dis _ (in2 in1))
    replace aL_ := aL_.step o60 (hN.dis _ in1)
    replace f_v55_3 := f_v55_3.step o60 (sub2 (sub2 (sub2 (sub2 (sub2 (sub2 (sub2 sub1)))))))
    replace f_v55_4 := f_v55_4.step o60 (sub2 (sub2 (sub2 (sub2 (sub2 (sub2 (sub2 sub1)))))))
    replace f_v55_8 := f_v55_8.step o60 (sub2 (sub2 (sub2 (sub2 (sub2 (sub2 (sub2 sub1)))))))
    replace f_v55_9 := f_v55_9.step o60 (sub2 (sub2 (sub2 (sub2 (sub2 (sub2 (sub2 sub1)))))))
    replace oW := oW.tail o60 (fun k _ e => (fun k h => h) k e)
    replace o54 := o54.tail o60 (fun k _ e => (sub2 (sub2 sub1)) k e)
    replace oR_ := oR_.tail o60 (fun k _ e => (fun k h => Or.inl ((sub2 (sub2 sub1)) k h)) k e)
    replace hN := a59
    refine wF ([(ptr L.bN 0), (eN dn), (eN bn), (ptr nbx 0), undef, undef, (eN 0), (eN (s.askR (s.eraseOk (dn : Int) (bn : Int)))), (ptr tb 0), undef, (ptr L.bD ((((s.ask (s.eraseOk (dn : Int) (bn : Int))).setB dn bn { (s.ask (s.eraseOk (dn : Int) (bn : Int))).bl dn bn with er := IntKind.i64.wrap (((s.ask (s.eraseOk (dn : Int) (bn : Int))).bl dn bn).er + 1) }).goes).ix dn bn pre.length)), (ptr L.bN 0), (ptr L.bN 0), (eN dn), (eN bn), vT, vT, (ptr L.bN 0), (eN dn), (eN bn), vF, vT, vT, (eN (s.askR (s.eraseOk (dn : Int) (bn : Int)))), (eN (s.askR (s.eraseOk (dn : Int) (bn : Int)))), (Value.bool (!decide ((s.askR (s.eraseOk (dn : Int) (bn : Int))) = 0))), undef, (ptr L.bN 0), (ptr L.bN 0), (ptr L.bN 11), L.ub, (eN dn), (ixp L.ub dn), (sli (L.bk.getD dn 0) 0 ((s.ask (s.eraseOk (dn : Int) (bn : Int))).gB) ((s.ask (s.eraseOk (dn : Int) (bn : Int))).gB)), (eN bn), (ptr (L.bk.getD dn 0) (bn * 3)), (ptr (L.bk.getD dn 0) (bn * 3 + 1)), (eI (((s.ask (s.eraseOk (dn : Int) (bn : Int))).bl dn bn).er)), (eI (IntKind.i64.wrap (((s.ask (s.eraseOk (dn : Int) (bn : Int))).bl dn bn).er + 1))), (ptr (L.bk.getD dn 0) (bn * 3)), (ptr (L.bk.getD dn 0) (bn * 3 + 1)), (ptr L.bN 0), (Value.bool (((s.ask (s.eraseOk (dn : Int) (bn : Int))).setB dn bn { (s.ask (s.eraseOk (dn : Int) (bn : Int))).bl dn bn with er := IntKind.i64.wrap (((s.ask (s.eraseOk (dn : Int) (bn : Int))).bl dn bn).er + 1) }).goesR)), (ptr L.bN 0), (ptr L.bN 0), (ptr L.bN 3), (Value.agg #[(eN ((((s.ask (s.eraseOk (dn : Int) (bn : Int))).setB dn bn { (s.ask (s.eraseOk (dn : Int) (bn : Int))).bl dn bn with er := IntKind.i64.wrap (((s.ask (s.eraseOk (dn : Int) (bn : Int))).bl dn bn).er + 1) }).goes).gD)), (eN ((((s.ask (s.eraseOk (dn : Int) (bn : Int))).setB dn bn { (s.ask (s.eraseOk (dn : Int) (bn : Int))).bl dn bn with er := IntKind.i64.wrap (((s.ask (s.eraseOk (dn : Int) (bn : Int))).bl dn bn).er + 1) }).goes).gB)), (eN ((((s.ask (s.eraseOk (dn : Int) (bn : Int))).setB dn bn { (s.ask (s.eraseOk (dn : Int) (bn : Int))).bl dn bn with er := IntKind.i64.wrap (((s.ask (s.eraseOk (dn : Int) (bn : Int))).bl dn bn).er + 1) }).goes).gP)), (sli L.bD 0 ((((s.ask (s.eraseOk (dn : Int) (bn : Int))).setB dn bn { (s.ask (s.eraseOk (dn : Int) (bn : Int))).bl dn bn with er := IntKind.i64.wrap (((s.ask (s.eraseOk (dn : Int) (bn : Int))).bl dn bn).er + 1) }).goes).n) ((((s.ask (s.eraseOk (dn : Int) (bn : Int))).setB dn bn { (s.ask (s.eraseOk (dn : Int) (bn : Int))).bl dn bn with er := IntKind.i64.wrap (((s.ask (s.eraseOk (dn : Int) (bn : Int))).bl dn bn).er + 1) }).goes).n))]), (eN dn), (eN bn), (Value.func (.func 107) #[] #[(ptr b42 0), (ptr b43 0), (ptr b44 0)]), (eN pre.length), (ptr L.bD ((((s.ask (s.eraseOk (dn : Int) (bn : Int))).setB dn bn { (s.ask (s.eraseOk (dn : Int) (bn : Int))).bl dn bn with er := IntKind.i64.wrap (((s.ask (s.eraseOk (dn : Int) (bn : Int))).bl dn bn).er + 1) }).goes).ix dn bn pre.length)), (Value.bool (((s.ask (s.eraseOk (dn : Int) (bn : Int))).setB dn bn { (s.ask (s.eraseOk (dn : Int) (bn : Int))).bl dn bn with er := IntKind.i64.wrap (((s.ask (s.eraseOk (dn : Int) (bn : Int))).bl dn bn).er + 1) }).goesR)), (ptr L.bD ((((s.ask (s.eraseOk (dn : Int) (bn : Int))).setB dn bn { (s.ask (s.eraseOk (dn : Int) (bn : Int))).bl dn bn with er := IntKind.i64.wrap (((s.ask (s.eraseOk (dn : Int) (bn : Int))).bl dn bn).er + 1) }).goes).ix dn bn pre.length)), (ptr L.bD ((((s.ask (s.eraseOk (dn : Int) (bn : Int))).setB dn bn { (s.ask (s.eraseOk (dn : Int) (bn : Int))).bl dn bn with er := IntKind.i64.wrap (((s.ask (s.eraseOk (dn : Int) (bn : Int))).bl dn bn).er + 1) }).goes).ix dn bn pre.length)), (ptr L.bD ((((s.ask (s.eraseOk (dn : Int) (bn : Int))).setB dn bn { (s.ask (s.eraseOk (dn : Int) (bn : Int))).bl dn bn with er := IntKind.i64.wrap (((s.ask (s.eraseOk (dn : Int) (bn : Int))).bl dn bn).er + 1) }).goes).ix dn bn pre.length)), (v55 3), (v55 4), (ptr L.bN 0), (ptr L.bN 0), (ptr L.bN 13), (v55 8), (v55 9), (ptr L.bD ((((s.ask (s.eraseOk (dn : Int) (bn : Int))).setB dn bn { (s.ask (s.eraseOk (dn : Int) (bn : Int))).bl dn bn with er := IntKind.i64.wrap (((s.ask (s.eraseOk (dn : Int) (bn : Int))).bl dn bn).er + 1) }).goes).ix dn bn pre.length))] ++ (us 14)) ?_
    refine wD ?_
    refine inb_n ?_
    refine ⟨oR_, ?_, ?_, ?_, ?_, ?_, ?_, ?_⟩
    ·
     exact o54
    ·
     exact a13
    ·
     exact a38
    ·
     exact a50
    ·
     exact a48
    ·
     exact a49
    ·
     (try dsimp only)
     all_goals (exact (by rw [List.length_append, List.length_singleton]; exact nd_to (hN.less (xx_or1 (xx_or1 (xx_or1 (xx_or1 (xx_or1 (xx_or1 (xx_or1 xx_id)))))))) (NS.eraseTo_next _ _ _ _ _ ((if_pos c1).trans (congrArg (fun x_ => mixR x_ onesW _) (NS.eraseTo_dl _ _ _ _ _).symm)))))
   refine pL ?_
   refine wI (d_move rfl) ?_
   refine wO (d_call (xl := []) (al := []) Try.func51 kr rfl rfl rfl (blank_ok _)) ?_
   rintro u63 w61 f64
   replace f64 := f64.ps
   obtain ⟨f64, o62⟩ := f64
   replace f64 := f64.less (Y := (Or1 L_ (Or1 D_ (Or1 b44 (Or1 b43 (Or1 b42 (Or1 tb (Or1 nbx (Ors L.S (Old W.heap.size)))))))))) (or1_old aL_.lt (or1_old aD_.lt (or1_old a50.lt (or1_old a49.lt (or1_old a48.lt (or1_old a38.lt (or1_old a13.lt (ors_old hN.lt (old_old oW.size)))))))))
   replace hN := hN.step0 o62
   replace a13 := a13.step0 o62
   replace a38 := a38.step0 o62
   replace a50 := a50.step0 o62
   replace a48 := a48.step0 o62
   replace a49 := a49.step0 o62
   replace aD_ := aD_.step0 o62
   replace aL_ := aL_.step0 o62
   replace oW := oW.tail0 o62
   replace o54 := o54.tail0 o62
   replace oR_ := oR_.tail0 o62
   refine wI (d_nilCheck (b := L.bD) (o := ((((s.ask (s.eraseOk (dn : Int) (bn : Int))).setB dn bn { (s.ask (s.eraseOk (dn : Int) (bn : Int))).bl dn bn with er := IntKind.i64.wrap (((s.ask (s.eraseOk (dn : Int) (bn : Int))).bl dn bn).er + 1) }).goes).ix dn bn pre.length)) rfl) ?_
   refine wO (nd_stD (i := ((((s.ask (s.eraseOk (dn : Int) (bn : Int))).setB dn bn { (s.ask (s.eraseOk (dn : Int) (bn : Int))).bl dn bn with er := IntKind.i64.wrap (((s.ask (s.eraseOk (dn : Int) (bn : Int))).bl dn bn).er + 1) }).goes).ix dn bn pre.length)) (Y := (Or1 L_ (Or1 D_ (Or1 b44 (Or1 b43 (Or1 b42 (Or1 tb (Or1 nbx (Ors L.S X))))))))) (l := onesW) hN (ox_or1 (ox_or1 (ox_or1 (ox_or1 (ox_or1 (ox_or1 (ox_or1 ox_s))))))) s_ti22 rfl rfl (f64.less (Y := (Or1 L_ (Or1 D_ (Or1 b44 (Or1 b43 (Or1 b42 (Or1 tb (Or1 nbx (Ors L.S X))))))))) (xx_or1 (xx_or1 (xx_or1 (xx_or1 (xx_or1 (xx_or1 (xx_or1 (xx_ors (lt_old hX)))))))))) (NS.ix_lt (by first | assumption | omega) (by first | assumption | omega) (by first | assumption | omega)) onesW_len) ?_
   rintro _ w65 ⟨a66, o67⟩
   replace a13 := a13.step o67 (hN.dis _ (in2 (in2 (in2 (in2 (in2 (in2 in1)))))))
   replace a38 := a38.step o67 (hN.dis _ (in2 (in2 (in2 (in2 (in2 in1))))))
   replace a50 := a50.step o67 (hN.dis _ (in2 (in2 in1)))
   replace a48 := a48.step o67 (hN.dis _ (in2 (in2 (in2 (in2 in1)))))
   replace a49 := a49.step o67 (hN.dis _ (in2 (in2 (in2 in1))))
   replace aD_ := aD_.step o67 (hN.dis _ (in2 in1))
   replace aL_ := aL_.step o67 (hN.dis _ in1)
   replace f64 := f64.step o67 (sub2 (sub2 (sub2 (sub2 (sub2 (sub2 (sub2 sub1)))))))
   replace oW := oW.tail o67 (fun k _ e => (fun k h => h) k e)
   replace o54 := o54.tail o67 (fun k _ e => (sub2 (sub2 sub1)) k e)
   replace oR_ := oR_.tail o67 (fun k _ e => (fun k h => Or.inl ((sub2 (sub2 sub1)) k h)) k e)
   replace hN := a66
   refine wF ([(ptr L.bN 0), (eN dn), (eN bn), (ptr nbx 0), undef, undef, (eN 0), (eN (s.askR (s.eraseOk (dn : Int) (bn : Int)))), (ptr tb 0), undef, (ptr L.bD ((((s.ask (s.eraseOk (dn : Int) (bn : Int))).setB dn bn { (s.ask (s.eraseOk (dn : Int) (bn : Int))).bl dn bn with er := IntKind.i64.wrap (((s.ask (s.eraseOk (dn : Int) (bn : Int))).bl dn bn).er + 1) }).goes).ix dn bn pre.length)), (ptr L.bN 0), (ptr L.bN 0), (eN dn), (eN bn), vT, vT, (ptr L.bN 0), (eN dn), (eN bn), vF, vT, vT, (eN (s.askR (s.eraseOk (dn : Int) (bn : Int)))), (eN (s.askR (s.eraseOk (dn : Int) (bn : Int)))), (Value.bool (!decide ((s.askR (s.eraseOk (dn : Int) (bn : Int))) = 0))), undef, (ptr L.bN 0), (ptr L.bN 0), (ptr L.bN 11), L.ub, (eN dn), (ixp L.ub dn), (sli (L.bk.getD dn 0) 0 ((s.ask (s.eraseOk (dn : Int) (bn : Int))).gB) ((s.ask (s.eraseOk (dn : Int) (bn : Int))).gB)), (eN bn), (ptr (L.bk.getD dn 0) (bn * 3)), (ptr (L.bk.getD dn 0) (bn * 3 + 1)), (eI (((s.ask (s.eraseOk (dn : Int) (bn : Int))).bl dn bn).er)), (eI (IntKind.i64.wrap (((s.ask (s.eraseOk (dn : Int) (bn : Int))).bl dn bn).er + 1))), (ptr (L.bk.getD dn 0) (bn * 3)), (ptr (L.bk.getD dn 0) (bn * 3 + 1)), (ptr L.bN 0), (Value.bool (((s.ask (s.eraseOk (dn : Int) (bn : Int))).setB dn bn { (s.ask (s.eraseOk (dn : Int) (bn : Int))).bl dn bn with er := IntKind.i64.wrap (((s.ask (s.eraseOk (dn : Int) (bn : Int))).bl dn bn).er + 1) }).goesR)), (ptr L.bN 0), (ptr L.bN 0), (ptr L.bN 3), (Value.agg #[(eN ((((s.ask (s.eraseOk (dn : Int) (bn : Int))).setB dn bn { (s.ask (s.eraseOk (dn : Int) (bn : Int))).bl dn bn with er := IntKind.i64.wrap (((s.ask (s.eraseOk (dn : Int) (bn : Int))).bl dn bn).er + 1) }).goes).gD)), (eN ((((s.ask (s.eraseOk (dn : Int) (bn : Int))).setB dn bn { (s.ask (s.eraseOk (dn : Int) (bn : Int))).bl dn bn with er := IntKind.i64.wrap (((s.ask (s.eraseOk (dn : Int) (bn : Int))).bl dn bn).er + 1) }).goes).gB)), (eN ((((s.ask (s.eraseOk (dn : Int) (bn : Int))).setB dn bn { (s.ask (s.eraseOk (dn : Int) (bn : Int))).bl dn bn with er := IntKind.i64.wrap (((s.ask (s.eraseOk (dn : Int) (bn : Int))).bl dn bn).er + 1) }).goes).gP)), (sli L.bD 0 ((((s.ask (s.eraseOk (dn : Int) (bn : Int))).setB dn bn { (s.ask (s.eraseOk (dn : Int) (bn : Int))).bl dn bn with er := IntKind.i64.wrap (((s.ask (s.eraseOk (dn : Int) (bn : Int))).bl dn bn).er + 1) }).goes).n) ((((s.ask (s.eraseOk (dn : Int) (bn : Int))).setB dn bn { (s.ask (s.eraseOk (dn : Int) (bn : Int))).bl dn bn with er := IntKind.i64.wrap (((s.ask (s.eraseOk (dn : Int) (bn : Int))).bl dn bn).er + 1) }).goes).n))]), (eN dn), (eN bn), (Value.func (.func 107) #[] #[(ptr b42 0), (ptr b43 0), (ptr b44 0)]), (eN pre.length), (ptr L.bD ((((s.ask (s.eraseOk (dn : Int) (bn : Int))).setB dn bn { (s.ask (s.eraseOk (dn : Int) (bn : Int))).bl dn bn with er := IntKind.i64.wrap (((s.ask (s.eraseOk (dn : Int) (bn : Int))).bl dn bn).er + 1) }).goes).ix dn bn pre.length)), (Value.bool (((s.ask (s.eraseOk (dn : Int) (bn : Int))).setB dn bn { (s.ask (s.eraseOk (dn : Int) (bn : Int))).bl dn bn with er := IntKind.i64.wrap (((s.ask (s.eraseOk (dn : Int) (bn : Int))).bl dn bn).er + 1) }).goesR))] ++ (us 11 ++ [(ptr L.bD ((((s.ask (s.eraseOk (dn : Int) (bn : Int))).setB dn bn { (s.ask (s.eraseOk (dn : Int) (bn : Int))).bl dn bn with er := IntKind.i64.wrap (((s.ask (s.eraseOk (dn : Int) (bn : Int))).bl dn bn).er + 1) }).goes).ix dn bn pre.length)), u63, (ptr L.bD ((((s.ask (s.eraseOk (dn : Int) (bn : Int))).setB dn bn { (s.ask (s.eraseOk (dn : Int) (bn : Int))).bl dn bn with er := IntKind.i64.wrap (((s.ask (s.eraseOk (dn : Int) (bn : Int))).bl dn bn).er + 1) }).goes).ix dn bn pre.length))] ++ (us 11))) ?_
   refine wD ?_
   refine inb_n ?_
   refine ⟨oR_, ?_, ?_, ?_, ?_, ?_, ?_, ?_⟩
   ·
    exact o54
   ·
    exact a13
   ·
    exact a38
   ·
    exact a50
   ·
    exact a48
   ·
    exact a49
   ·
    (try dsimp only)
    all_goals (exact (by rw [List.length_append, List.length_singleton]; exact nd_to (hN.less (xx_or1 (xx_or1 (xx_or1 (xx_or1 (xx_or1 (xx_or1 (xx_or1 xx_id)))))))) (NS.eraseTo_next _ _ _ _ _ (if_neg (fun e_ => by rw [c1] at e_; cases e_)))))
  ·
   intro w1_ hI_ aD_
   obtain ⟨o54, a13, a38, a50, a48, a49, hN⟩ := hI_
   replace hN := hN.less (Y := (Or1 D_ (Or1 b44 (Or1 b43 (Or1 b42 (Or1 tb (Or1 nbx X))))))) (xx_skip xx_id)
   replace oW := oW.tail o54 (tl_new g_oW_tb (tl_new g_oW_nbx (tl_sin (fun k h => h) tl_no)))
   have n_nbx_D_ : nbx ≠ D_ := by omega
   have n_tb_D_ : tb ≠ D_ := by omega
   have n_b44_D_ : b44 ≠ D_ := by omega
   have n_b42_D_ : b42 ≠ D_ := by omega
   have n_b43_D_ : b43 ≠ D_ := by omega
   have g_oW_D_ : W.heap.size ≤ D_ := by omega
   have g_o54_D_ : w40.heap.size ≤ D_ := by omega
   replace hN := nd_to hN (show _ = (s.eraseA (dn : Int) (bn : Int)).eraseTo s.goesR dn bn s.gP from by rw [List.length_range]; rfl)
   refine inb_n (tN ?_)
   refine wQ (wQ (pL ?_))
   refine wI (d_load (v := (Value.bool (((s.ask (s.eraseOk (dn : Int) (bn : Int))).setB dn bn { (s.ask (s.eraseOk (dn : Int) (bn : Int))).bl dn bn with er := IntKind.i64.wrap (((s.ask (s.eraseOk (dn : Int) (bn : Int))).bl dn bn).er + 1) }).goesR))) ⟨_, Try.underlying4, rfl⟩ rfl a38 rfl) ?_
   refine wD (tN ?_)
   refine cond_b rfl (fun c1 => ?_) (fun c1 => ?_)
   ·
    refine wQ (pL ?_)
    refine wI (d_assign rfl) ?_
    refine wD (tN ?_)
    refine wpIn_ret ?_
    refine then_r ?_
    refine leave (marks_ok aD_) (fun w68 o69 => ⟨res1 Try.results61 rfl, ?_⟩)
    replace o69 := only_mem o69
    replace hN := hN.stepb o69 in1
    replace a13 := a13.step o69 (fun e => absurd e n_nbx_D_)
    replace a38 := a38.step o69 (fun e => absurd e n_tb_D_)
    replace a50 := a50.step o69 (fun e => absurd e n_b44_D_)
    replace a48 := a48.step o69 (fun e => absurd e n_b42_D_)
    replace a49 := a49.step o69 (fun e => absurd e n_b43_D_)
    replace oW := oW.tailb o69 g_oW_D_
    replace o54 := o54.tailb o69 g_o54_D_
    obtain ⟨e1_, e2_⟩ := NS.erase_torn c0 c1
    exact ⟨congrArg eN e2_.symm, by rw [e1_]; exact (hN.less (xx_skip (xx_skip (xx_skip (xx_skip (xx_skip (xx_skip xx_id))))))), oW⟩
   refine wK (tN (wQ (pL ?_)))
   refine wI (d_load (v := (ptr L.bN 0)) ⟨_, Try.underlying44, rfl⟩ rfl a13 rfl) ?_
   refine wI (d_nilCheck (b := L.bN) (o := 0) rfl) ?_
   refine wI (d_fieldAddr (j := 11) Try.underlying81 rfl s_ti79 (by decide) rfl rfl) ?_
   refine wI (nd_ld (v := L.ub) hN ⟨_, Try.underlying79, rfl⟩ rfl (fun _ => rfl)) ?_
   refine wI (d_move rfl) ?_
   refine wI (nd_ixU (i := dn) hN Try.underlying79 s_ti83 rfl (show _ = Value.int _ (dn : Int) from rfl) hd1) ?_
   refine wF ([(ptr L.bN 0), (eN dn), (eN bn), (ptr nbx 0), undef, undef, (eN 0), (eN (s.askR (s.eraseOk (dn : Int) (bn : Int)))), (ptr tb 0), undef, undef, (ptr L.bN 0), (ptr L.bN 0), (eN dn), (eN bn), vT, vT, (ptr L.bN 0), (eN dn), (eN bn), vF, vT, vT, (eN (s.askR (s.eraseOk (dn : Int) (bn : Int)))), (eN (s.askR (s.eraseOk (dn : Int) (bn : Int)))), (Value.bool (!decide ((s.askR (s.eraseOk (dn : Int) (bn : Int))) = 0))), undef, (ptr L.bN 0), (ptr L.bN 0), (ptr L.bN 11), L.ub, (eN dn), (ixp L.ub dn), (sli (L.bk.getD dn 0) 0 ((s.ask (s.eraseOk (dn : Int) (bn : Int))).gB) ((s.ask (s.eraseOk (dn : Int) (bn : Int))).gB)), (eN bn), (ptr (L.bk.getD dn 0) (bn * 3)), (ptr (L.bk.getD dn 0) (bn * 3 + 1)), (eI (((s.ask (s.eraseOk (dn : Int) (bn : Int))).bl dn bn).er)), (eI (IntKind.i64.wrap (((s.ask (s.eraseOk (dn : Int) (bn : Int))).bl dn bn).er + 1))), (ptr (L.bk.getD dn 0) (bn * 3)), (ptr (L.bk.getD dn 0) (bn * 3 + 1)), (ptr L.bN 0), (Value.bool (((s.ask (s.eraseOk (dn : Int) (bn : Int))).setB dn bn { (s.ask (s.eraseOk (dn : Int) (bn : Int))).bl dn bn with er := IntKind.i64.wrap (((s.ask (s.eraseOk (dn : Int) (bn : Int))).bl dn bn).er + 1) }).goesR)), (ptr L.bN 0), (ptr L.bN 0), (ptr L.bN 3), (Value.agg #[(eN ((((s.ask (s.eraseOk (dn : Int) (bn : Int))).setB dn bn { (s.ask (s.eraseOk (dn : Int) (bn : Int))).bl dn bn with er := IntKind.i64.wrap (((s.ask (s.eraseOk (dn : Int) (bn : Int))).bl dn bn).er + 1) }).goes).gD)), (eN ((((s.ask (s.eraseOk (dn : Int) (bn : Int))).setB dn bn { (s.ask (s.eraseOk (dn : Int) (bn : Int))).bl dn bn with er := IntKind.i64.wrap (((s.ask (s.eraseOk (dn : Int) (bn : Int))).bl dn bn).er + 1) }).goes).gB)), (eN ((((s.ask (s.eraseOk (dn : Int) (bn : Int))).setB dn bn { (s.ask (s.eraseOk (dn : Int) (bn : Int))).bl dn bn with er := IntKind.i64.wrap (((s.ask (s.eraseOk (dn : Int) (bn : Int))).bl dn bn).er + 1) }).goes).gP)), (sli L.bD 0 ((((s.ask (s.eraseOk (dn : Int) (bn : Int))).setB dn bn { (s.ask (s.eraseOk (dn : Int) (bn : Int))).bl dn bn with er := IntKind.i64.wrap (((s.ask (s.eraseOk (dn : Int) (bn : Int))).bl dn bn).er + 1) }).goes).n) ((((s.ask (s.eraseOk (dn : Int) (bn : Int))).setB dn bn { (s.ask (s.eraseOk (dn : Int) (bn : Int))).bl dn bn with er := IntKind.i64.wrap (((s.ask (s.eraseOk (dn : Int) (bn : Int))).bl dn bn).er + 1) }).goes).n))]), (eN dn), (eN bn), (Value.func (.func 107) #[] #[(ptr b42 0), (ptr b43 0), (ptr b44 0)])] ++ (us 17 ++ [(Value.bool (((s.ask (s.eraseOk (dn : Int) (bn : Int))).setB dn bn { (s.ask (s.eraseOk (dn : Int) (bn : Int))).bl dn bn with er := IntKind.i64.wrap (((s.ask (s.eraseOk (dn : Int) (bn : Int))).bl dn bn).er + 1) }).goesR)), (ptr L.bN 0), (ptr L.bN 0), (ptr L.bN 11), L.ub, (eN dn), (ixp L.ub dn), undef, undef, undef, undef])) ?_
   refine wI (nd_ldU (i := dn) hN ⟨_, Try.underlying83, rfl⟩ rfl hd1) ?_
   refine wI (d_move rfl) ?_
   refine wI (d_index (b := (L.bk.getD dn 0)) (o := 0) (n := (((s.eraseA (dn : Int) (bn : Int)).eraseTo s.goesR dn bn s.gP).gB)) (c := (((s.eraseA (dn : Int) (bn : Int)).eraseTo s.goesR dn bn s.gP).gB)) (j := (bn * 3)) Try.underlying83 s_ti87 rfl (show _ = Value.int _ (bn : Int) from rfl) oo (Int.ofNat_lt.2 hb1) (by simp)) ?_
   refine wI (d_fieldAddr (j := bn * 3) Try.underlying87 rfl s_ti3 (by decide) rfl rfl) ?_
   refine wO (nd_stS (i := dn) (j := bn) (f := 0) (x' := { ((s.eraseA (dn : Int) (bn : Int)).eraseTo s.goesR dn bn s.gP).bl dn bn with nx := 0 }) hN s_ti3 rfl rfl rfl hd1 hb1 (by decide) rfl (Nat.zero_le _)) ?_
   rintro _ w70 ⟨a71, o72⟩
   replace a13 := a13.step o72 (hN.dis _ (in2 (in2 (in2 (in2 (in2 in1))))))
   replace a38 := a38.step o72 (hN.dis _ (in2 (in2 (in2 (in2 in1)))))
   replace a50 := a50.step o72 (hN.dis _ (in2 in1))
   replace a48 := a48.step o72 (hN.dis _ (in2 (in2 (in2 in1))))
   replace a49 := a49.step o72 (hN.dis _ (in2 (in2 in1)))
   replace aD_ := aD_.step o72 (hN.dis _ in1)
   replace oW := oW.tail o72 (fun k _ e => (fun k h => h) k e)
   replace o54 := o54.tail o72 (fun k _ e => (sub2 (sub2 sub1)) k e)
   replace hN := a71
   refine wD (tN (wQ (pL ?_)))
   refine wI (d_assign rfl) ?_
   refine wD (tN ?_)
   refine wpIn_ret ?_
   refine leave (marks_ok aD_) (fun w73 o74 => ⟨res1 Try.results61 rfl, ?_⟩)
   replace o74 := only_mem o74
   replace hN := hN.stepb o74 in1
   replace a13 := a13.step o74 (fun e => absurd e n_nbx_D_)
   replace a38 := a38.step o74 (fun e => absurd e n_tb_D_)
   replace a50 := a50.step o74 (fun e => absurd e n_b44_D_)
   replace a48 := a48.step o74 (fun e => absurd e n_b42_D_)
   replace a49 := a49.step o74 (fun e => absurd e n_b43_D_)
   replace oW := oW.tailb o74 g_oW_D_
   replace o54 := o54.tailb o74 g_o54_D_
   obtain ⟨e1_, e2_⟩ := NS.erase_yes c0 c1
   exact ⟨congrArg eN e2_.symm, by rw [e1_]; exact (hN.less (xx_skip (xx_skip (xx_skip (xx_skip (xx_skip (xx_skip xx_id))))))), oW⟩
  ·
   intro _ _ _ _ h _; exact h.elim
 refine wp_eq (l' := ([(ptr L.bN 0), (eI d), (eI b), (ptr nbx 0), undef, undef, (eN 0)] ++ (us 71))) rfl ?_
 refine drawnT (O := (Or1 nbx (Ors L.S No))) (n := 14) 12 [0, 0, 0, 0, 14, 30, 62, 62, 62, 510, 1022, 2046, 4095, 8191] [(0, 11), (1, 12), (2, 13), (3, 14), (4, 15), (5, 16), (6, 17), (7, 18), (8, 19), (9, 20), (10, 21), (11, 22), (12, 23), (13, 7)] [(0, 11), (1, 12), (2, 13), (3, 14), (4, 15), (5, 16), (6, 17), (7, 18), (8, 19), (9, 20), (10, 21), (11, 22)] [0, 1, 2, 3, 4, 5, 6, 7, 8, 9, 10, 11] [] (fun i_ => ([RF.is (Or1 nbx (Ors L.S No)) (ptr L.bN 0), RF.is (Or1 nbx (Ors L.S No)) (ptr L.bN 0), RF.is (Or1 nbx (Ors L.S No)) (eI d), RF.is (Or1 nbx (Ors L.S No)) (eI b), RF.is (Or1 nbx (Ors L.S No)) vF, RF.is (Or1 nbx (Ors L.S No)) vF, RF.is (Or1 nbx (Ors L.S No)) undef, RF.is (Or1 nbx (Ors L.S No)) undef, RF.is (Or1 nbx (Ors L.S No)) undef, RF.is (Or1 nbx (Ors L.S No)) undef, RF.is (Or1 nbx (Ors L.S No)) undef, RF.is (Or1 nbx (Ors L.S No)) vF] : List (RF (Or1 nbx (Ors L.S No)))).getD i_ (RF.any (Or1 nbx (Ors L.S No)))) (fun _ w_ => Arr 44 nbx [(ptr L.bN 0)] w_ ∧ Nd L s (Or1 nbx X) w_) (fun v75 => ([(ptr L.bN 0), (eI d), (eI b), (ptr nbx 0), undef, undef, (eN 0), (v75 13), undef, undef, undef, (v75 0), (v75 1), (v75 2), (v75 3), (v75 4), (v75 5), (v75 6), (v75 7), (v75 8), (v75 9), (v75 10), (v75 11), (v75 12)] ++ (us 54))) (fun v75 => ([(ptr L.bN 0), (eI d), (eI b), (ptr nbx 0), undef, undef, (eN 0), undef, undef, undef, undef, (v75 0), (v75 1), (v75 2), (v75 3), (v75 4), (v75 5), (v75 6), (v75 7), (v75 8), (v75 9), (v75 10), (v75 11)] ++ (us 55))) s_mx kr rfl (by decide) (by rfl) kr kr kr (by rfl) (fun v_ => by kernel_rfl) (fun v_ => by kernel_rfl) (fun _ => fun w_ w2_ h ho => by obtain ⟨r_a13, r_hN⟩ := h; exact ⟨r_a13.step0 ho, r_hN.step0 ho⟩) ⟨a13, hN⟩ ?_ ?_ ?_
 ·
  refine ls_cons ?_ ?_
  ·
   intro v75 lo hi w_ k_ hO hd _ _ hk_ _ hR hold
   obtain ⟨r_a13, r_hN⟩ := hR
   clear hd hold
   refine ⟨_, rfl, gd rfl ?_⟩
   exact Does.is (d_load (v := (ptr L.bN 0)) ⟨_, Try.underlying44, rfl⟩ rfl r_a13 rfl)
  refine ls_cons ?_ ?_
  ·
   intro v75 lo hi w_ k_ hO hd _ _ hk_ _ hR hold
   obtain ⟨r_a13, r_hN⟩ := hR
   clear hd hold
   refine ⟨_, rfl, gd rfl ?_⟩
   exact Does.is (d_load (v := (ptr L.bN 0)) ⟨_, Try.underlying44, rfl⟩ rfl r_a13 rfl)
  refine ls_cons ?_ ?_
  ·
   intro v75 lo hi w_ k_ hO hd _ _ hk_ _ hR hold
   obtain ⟨r_a13, r_hN⟩ := hR
   clear hd hold
   refine ⟨_, rfl, gd rfl ?_⟩
   exact Does.is (d_move rfl)
  refine ls_cons ?_ ?_
  ·
   intro v75 lo hi w_ k_ hO hd _ _ hk_ _ hR hold
   obtain ⟨r_a13, r_hN⟩ := hR
   clear hd hold
   refine ⟨_, rfl, gd rfl ?_⟩
   exact Does.is (d_move rfl)
  refine ls_cons ?_ ?_
  ·
   intro v75 lo hi w_ k_ hO hd _ _ hk_ _ hR hold
   obtain ⟨r_a13, r_hN⟩ := hR
   have e1 : v75 1 = (ptr L.bN 0) := hd 1 kr
   have e2 : v75 2 = (eI d) := hd 2 kr
   have e3 : v75 3 = (eI b) := hd 3 kr
   clear hd hold
   refine ⟨_, rfl, gd rfl ?_⟩
   exact d_call (xl := [.tmp 12, .tmp 13, .tmp 14]) (al := [(ptr L.bN 0), (eI d), (eI b)]) Try.func52 kr rfl (show ([(v75 1), (v75 2), (v75 3)] : List Value) = [(ptr L.bN 0), (eI d), (eI b)] from by rw [e1, e2, e3]) rfl (there_ok L s _ r_hN (r := false) d b (Bool.eq_false_iff.2 k0))
  refine ls_cons ?_ ?_
  ·
   intro v75 lo hi w_ k_ hO hd _ _ hk_ _ hR hold
   obtain ⟨r_a13, r_hN⟩ := hR
   have e4 : v75 4 = vF := hd 4 kr
   clear hd hold
   refine ⟨_, rfl, gd rfl ?_⟩
   exact Does.is (d_move (v := vF) e4)
  refine ls_cons ?_ ?_
  ·
   intro v75 lo hi w_ k_ hO hd _ _ hk_ _ hR hold
   obtain ⟨r_a13, r_hN⟩ := hR
   have e5 : v75 5 = vF := hd 5 kr
   clear hd hold
   refine ⟨_, rfl, gd_off rfl rfl rfl (nb rfl) e5 ?_⟩
   exact ⟨rfl, Only.refl _ _⟩
  refine ls_cons ?_ ?_
  ·
   intro v75 lo hi w_ k_ hO hd _ _ hk_ _ hR hold
   obtain ⟨r_a13, r_hN⟩ := hR
   have e5 : v75 5 = vF := hd 5 kr
   clear hd hold
   refine ⟨_, rfl, gd_off rfl rfl rfl (nb rfl) e5 ?_⟩
   exact ⟨rfl, Only.refl _ _⟩
  refine ls_cons ?_ ?_
  ·
   intro v75 lo hi w_ k_ hO hd _ _ hk_ _ hR hold
   obtain ⟨r_a13, r_hN⟩ := hR
   have e5 : v75 5 = vF := hd 5 kr
   clear hd hold
   refine ⟨_, rfl, gd_off rfl rfl rfl (nb rfl) e5 ?_⟩
   exact ⟨rfl, Only.refl _ _⟩
  refine ls_cons ?_ ?_
  ·
   intro v75 lo hi w_ k_ hO hd _ _ hk_ _ hR hold
   obtain ⟨r_a13, r_hN⟩ := hR
   have e5 : v75 5 = vF := hd 5 kr
   clear hd hold
   refine ⟨_, rfl, gd_off rfl rfl rfl (nb rfl) e5 ?_⟩
   exact ⟨rfl, Only.refl _ _⟩
  refine ls_cons ?_ ?_
  ·
   intro v75 lo hi w_ k_ hO hd _ _ hk_ _ hR hold
   obtain ⟨r_a13, r_hN⟩ := hR
   have e5 : v75 5 = vF := hd 5 kr
   clear hd hold
   refine ⟨_, rfl, gd_off rfl rfl rfl (nb rfl) e5 ?_⟩
   exact ⟨rfl, Only.refl _ _⟩
  refine ls_cons ?_ ?_
  ·
   intro v75 lo hi w_ k_ hO hd _ _ hk_ _ hR hold
   obtain ⟨r_a13, r_hN⟩ := hR
   have e5 : v75 5 = vF := hd 5 kr
   clear hd hold
   refine ⟨_, rfl, gd rfl ?_⟩
   exact Does.is (d_pick (b := false) (v := vF) e5 rfl)
  exact ls_nil
 ·
  exact ms_nil
 intro v75 lo_ hi_ w76 o77 hd iv_ hR
 have e0 : v75 0 = (ptr L.bN 0) := hd 0 (by decide)
 have e1 : v75 1 = (ptr L.bN 0) := hd 1 (by decide)
 have e2 : v75 2 = (eI d) := hd 2 (by decide)
 have e3 : v75 3 = (eI b) := hd 3 (by decide)
 have e4 : v75 4 = vF := hd 4 (by decide)
 have e5 : v75 5 = vF := hd 5 (by decide)
 have e6 : v75 6 = undef := hd 6 (by decide)
 have e7 : v75 7 = undef := hd 7 (by decide)
 have e8 : v75 8 = undef := hd 8 (by decide)
 have e9 : v75 9 = undef := hd 9 (by decide)
 have e10 : v75 10 = undef := hd 10 (by decide)
 have e11 : v75 11 = vF := hd 11 (by decide)
 clear hd iv_ lo_ hi_
 refine wpL.flat ([(ptr L.bN 0), (eI d), (eI b), (ptr nbx 0), undef, undef, (eN 0), undef, undef, undef, undef, (ptr L.bN 0), (ptr L.bN 0), (eI d), (eI b), vF, vF] ++ (us 5 ++ [vF] ++ (us 55))) (by rw [e0, e1, e2, e3, e4, e5, e6, e7, e8, e9, e10, e11] <;> rfl) ?_
 clear e0 e1 e2 e3 e4 e5 e6 e7 e8 e9 e10 e11
 obtain ⟨xr_a13, xr_hN⟩ := hR
 replace a13 : Arr 44 nbx [(ptr L.bN 0)] w76 := xr_a13
 replace hN := xr_hN
 clear xr_a13 xr_hN
 replace oW := oW.tail o77 (tl_new g_oW_nbx (tl_sin (fun k h => h) tl_no))
 refine wO (d_call (xl := [.tmp 11, .tmp 22]) (al := [(ptr L.bN 0), vF]) Try.func80 kr rfl rfl rfl (ask_ok L s _ hN (g := (s.eraseOk d b)) false (by simp [NS.eraseOk, *]))) ?_
 rintro _ w78 ⟨rfl, a80, o79⟩
 replace a13 := a13.step o79 (hN.dis _ in1)
 replace oW := oW.tail o79 (fun k _ e => (fun k h => h) k e)
 replace hN := a80
 refine wI (d_assign rfl) ?_
 refine wF ([(ptr L.bN 0), (eI d), (eI b), (ptr nbx 0), undef, undef, (eN 0), (eN (s.askR (s.eraseOk d b))), undef, undef, undef, (ptr L.bN 0), (ptr L.bN 0), (eI d), (eI b), vF, vF] ++ (us 5 ++ [vF, (eN (s.askR (s.eraseOk d b)))] ++ (us 54))) ?_
 refine wD (tN (wQ (pL ?_)))
 refine wI (d_move rfl) ?_
 refine wI (n_neq (a := (s.askR (s.eraseOk d b))) (b := 0) rfl rfl rfl) ?_
 refine wD (tN ?_)
 refine cond_un rfl (fun c0 => ?_) (fun c0 => ?_)
 ·
  refine wQ (pL ?_)
  refine wI (d_move rfl) ?_
  refine wI (d_assign rfl) ?_
  refine wD (tN ?_)
  refine wpIn_ret ?_
  refine then_r ?_
  refine leave0 (v := (eN (s.askR (s.eraseOk d b)))) (res1 Try.results61 rfl) ?_
  obtain ⟨e1_, e2_⟩ := NS.erase_no c0; exact ⟨congrArg eN e2_.symm, e1_ ▸ (hN.less (xx_skip xx_id)), oW⟩
 exact absurd c0 (NS.askR_no (by simp [NS.eraseOk, *]))
theorem fits_ok (D B Q : Nat) (W : World) (hD : 6 ≤ D ∧ D ≤ 8) (hB : 8 ≤ B ∧ B ≤ 12) (hQ : 4 ≤ Q ∧ Q ≤ 8) :
    CW Try.prog 48 #[(Value.agg #[(eN D), (eN B), (eN Q)])] W (Rt (RIs (.bool true) W)) := by
 have oW : Only No W W := Only.refl _ _
 refine enter (al := [(Value.agg #[(eN D), (eN B), (eN Q)])]) (k := 30) (l := ([(Value.agg #[(eN D), (eN B), (eN Q)])] ++ (us 30))) Try.func48 rfl Try.ntmps48 rfl rfl ?_
 refine wQ (pL ?_)
 refine wO (d_box rfl rfl) ?_
 rintro _ w12 ⟨b11, rfl, g13, a14, o15⟩
 have g_oW_b11 : W.heap.size ≤ b11 := Nat.le_trans oW.size g13
 replace oW := oW.tail0 o15
 refine wI (d_assign rfl) ?_
 refine wD (tN (wQ (pL ?_)))
 refine wI (d_fieldAddr (j := 0) Try.underlying49 rfl s_ti3 (by decide) rfl rfl) ?_
 refine wI (d_load (v := (eN D)) ⟨_, Try.underlying3, rfl⟩ rfl a14 rfl) ?_
 refine wI (n_geq (a := D) (b := 6) rfl rfl (decide_eq_true oo)) ?_
 refine wI (d_move rfl) ?_
 refine wG (d_fieldAddr (j := 0) Try.underlying49 rfl s_ti3 (by decide) rfl rfl) ?_
 refine wF ([(Value.agg #[(eN D), (eN B), (eN Q)]), (ptr b11 0), vF, (ptr b11 0), (eN D), vT, vT, (ptr b11 0)] ++ (us 23)) ?_
 refine wG (d_load (v := (eN D)) ⟨_, Try.underlying3, rfl⟩ rfl a14 rfl) ?_
 refine wG (n_leq (a := D) (b := 8) rfl rfl (decide_eq_true oo)) ?_
 refine wI (d_pick (b := true) (v := vT) rfl rfl) ?_
 refine wI (d_move rfl) ?_
 refine wG (d_fieldAddr (j := 1) Try.underlying49 rfl s_ti3 (by decide) rfl rfl) ?_
 refine wG (d_load (v := (eN B)) ⟨_, Try.underlying3, rfl⟩ rfl a14 rfl) ?_
 refine wG (n_geq (a := B) (b := 8) rfl rfl (decide_eq_true oo)) ?_
 refine wF ([(Value.agg #[(eN D), (eN B), (eN Q)]), (ptr b11 0), vF, (ptr b11 0), (eN D), vT, vT, (ptr b11 0), (eN D), vT, vT, vT, (ptr b11 1), (eN B), vT] ++ (us 16)) ?_
 refine wI (d_pick (b := true) (v := vT) rfl rfl) ?_
 refine wI (d_move rfl) ?_
 refine wG (d_fieldAddr (j := 1) Try.underlying49 rfl s_ti3 (by decide) rfl rfl) ?_
 refine wG (d_load (v := (eN B)) ⟨_, Try.underlying3, rfl⟩ rfl a14 rfl) ?_
 refine wG (n_leq (a := B) (b := 12) rfl rfl (decide_eq_true oo)) ?_
 refine wI (d_pick (b := true) (v := vT) rfl rfl) ?_
 refine wI (d_move rfl) ?_
 refine wF ([(Value.agg #[(eN D), (eN B), (eN Q)]), (ptr b11 0), vF, (ptr b11 0), (eN D), vT, vT, (ptr b11 0), (eN D), vT, vT, vT, (ptr b11 1), (eN B), vT, vT, vT, (ptr b11 1), (eN B), vT, vT, vT] ++ (us 9)) ?_
 refine wG (d_fieldAddr (j := 2) Try.underlying49 rfl s_ti3 (by decide) rfl rfl) ?_
 refine wG (d_load (v := (eN Q)) ⟨_, Try.underlying3, rfl⟩ rfl a14 rfl) ?_
 refine wG (n_geq (a := Q) (b := 4) rfl rfl (decide_eq_true oo)) ?_
 refine wI (d_pick (b := true) (v := vT) rfl rfl) ?_
 refine wI (d_move rfl) ?_
 refine wG (d_fieldAddr (j := 2) Try.underlying49 rfl s_ti3 (by decide) rfl rfl) ?_
 refine wG (d_load (v := (eN Q)) ⟨_, Try.underlying3, rfl⟩ rfl a14 rfl) ?_
 refine wF [(Value.agg #[(eN D), (eN B), (eN Q)]), (ptr b11 0), vF, (ptr b11 0), (eN D), vT, vT, (ptr b11 0), (eN D), vT, vT, vT, (ptr b11 1), (eN B), vT, vT, vT, (ptr b11 1), (eN B), vT, vT, vT, (ptr b11 2), (eN Q), vT, vT, vT, (ptr b11 2), (eN Q), undef, undef] ?_
 refine wG (n_leq (a := Q) (b := 8) rfl rfl (decide_eq_true oo)) ?_
 refine wI (d_pick (b := true) (v := vT) rfl rfl) ?_
 refine wI (d_assign rfl) ?_
 refine wD (tN ?_)
 refine forget (fun zf16 => ([(zf16 0), (zf16 1), vT] ++ (zs zf16 3 28))) kr (fun zf16 => ?_)
 refine wpIn_ret ?_
 refine leave0 (v := vT) (res1 Try.results48 rfl) ?_
 exact ⟨rfl, oW⟩
theorem noneD_ok (D B Q : Nat) (W : World) (hD : 6 ≤ D ∧ D ≤ 8) (hB : 8 ≤ B ∧ B ≤ 12) (hQ : 4 ≤ Q ∧ Q ≤ 8) :
    CW Try.prog 49 #[(Value.agg #[(eN D), (eN B), (eN Q)])] W (Rt (Made 22 W (fun b_ => .agg #[eN D, eN B, eN Q, sli b_ 0 (D * B * Q) (D * B * Q)]) (List.replicate (D * B * Q) (Value.slice none 0 0)))) := by
 have oW : Only No W W := Only.refl _ _
 refine enter (al := [(Value.agg #[(eN D), (eN B), (eN Q)])]) (k := 13) (l := ([(Value.agg #[(eN D), (eN B), (eN Q)])] ++ (us 13))) Try.func49 rfl Try.ntmps49 rfl rfl ?_
 have m1_ : D * B ≤ 8 * 12 := Nat.mul_le_mul hD.2 hB.2
 have m2_ : D * B * Q ≤ 8 * 12 * 8 := Nat.mul_le_mul m1_ hQ.2
 refine wQ (pL ?_)
 refine wO (d_box rfl rfl) ?_
 rintro _ w11 ⟨gb, rfl, g12, a13, o14⟩
 have g_oW_gb : W.heap.size ≤ gb := Nat.le_trans oW.size g12
 replace oW := oW.tail0 o14
 refine wO (d_alloc s_ti73 rfl) ?_
 rintro _ w15 ⟨r, rfl, g16, a17, o18⟩
 have n_gb_r : gb ≠ r := a13.ne g16
 have g_oW_r : W.heap.size ≤ r := Nat.le_trans oW.size g16
 replace a13 := a13.step0 o18
 replace oW := oW.tail0 o18
 refine wD (tN (wQ ?_))
 refine wp_eq (l' := ([(Value.agg #[(eN D), (eN B), (eN Q)]), (ptr gb 0), (ptr r 0)] ++ (us 11))) rfl ?_
 have hX0_ : ∀ k, (Or1 r (Or1 gb (Old W.heap.size))) k → k < w15.heap.size := (lt_or1 a17.lt (lt_or1 a13.lt (fun k t => Nat.lt_of_lt_of_le t oW.size)))
 have hO0_ : ∀ k, (Or1 r (Or1 gb No)) k → k < w15.heap.size := fun k h => hX0_ k ((or1_mono (or1_mono no_any)) k h)
 refine drawnT (O := (Or1 r (Or1 gb No))) (n := 12) 10 [0, 0, 2, 0, 8, 30, 0, 64, 254, 510, 1023, 2047] [(0, 3), (1, 4), (2, 5), (3, 6), (4, 7), (5, 8), (6, 9), (7, 10), (8, 11), (9, 12), (10, 13)] [(0, 3), (1, 4), (2, 5), (3, 6), (4, 7), (5, 8), (6, 9), (7, 10), (8, 11), (9, 12)] [0, 1, 2, 3, 4, 5, 6, 7, 8, 9] [] (fun i_ => ([RF.is (Or1 r (Or1 gb No)) (Value.agg #[(eN D), (eN B), (eN Q)]), RF.is (Or1 r (Or1 gb No)) (ptr gb 0), RF.is (Or1 r (Or1 gb No)) (eN D), RF.is (Or1 r (Or1 gb No)) (ptr gb 1), RF.is (Or1 r (Or1 gb No)) (eN B), RF.is (Or1 r (Or1 gb No)) (eN (D * B)), RF.is (Or1 r (Or1 gb No)) (ptr gb 2), RF.is (Or1 r (Or1 gb No)) (eN Q), RF.is (Or1 r (Or1 gb No)) (eN ((D * B) * Q)), RF.mk_ (Or1 r (Or1 gb No)) (fun b_ => (sli b_ 0 ((D * B) * Q) ((D * B) * Q))) 22 (List.replicate ((D * B) * Q) (Value.slice none 0 0)) w15.heap.size hO0_] : List (RF (Or1 r (Or1 gb No)))).getD i_ (RF.any (Or1 r (Or1 gb No)))) (fun _ w_ => Arr 49 gb [(eN D), (eN B), (eN Q)] w_ ∧ Arr 73 r [(eN 0), (eN 0), (eN 0), (Value.slice none 0 0)] w_) (fun v19 => [(Value.agg #[(eN D), (eN B), (eN Q)]), (ptr gb 0), (ptr r 0), (v19 0), (v19 1), (v19 2), (v19 3), (v19 4), (v19 5), (v19 6), (v19 7), (v19 8), (v19 9), (v19 10)]) (fun v19 => [(Value.agg #[(eN D), (eN B), (eN Q)]), (ptr gb 0), (ptr r 0), (v19 0), (v19 1), (v19 2), (v19 3), (v19 4), (v19 5), (v19 6), (v19 7), (v19 8), (v19 9), undef]) s_mx kr rfl (by decide) (by rfl) kr kr kr (by rfl) (fun v_ => by kernel_rfl) (fun v_ => by kernel_rfl) (fun _ => fun w_ w2_ h ho => by obtain ⟨r_a13, r_a17⟩ := h; exact ⟨r_a13.step0 ho, r_a17.step0 ho⟩) ⟨a13, a17⟩ ?_ ?_ ?_
 ·
  refine ls_cons ?_ ?_
  ·
   intro v19 lo hi w_ k_ hO hd _ _ hk_ _ hR hold
   obtain ⟨r_a13, r_a17⟩ := hR
   clear hd hold
   refine ⟨_, rfl, gd rfl ?_⟩
   exact Does.is (d_loadAg (vs := [(eN D), (eN B), (eN Q)]) ⟨_, Try.underlying49, rfl⟩ s_ti49 rfl r_a13 rfl rfl)
  refine ls_cons ?_ ?_
  ·
   intro v19 lo hi w_ k_ hO hd _ _ hk_ _ hR hold
   obtain ⟨r_a13, r_a17⟩ := hR
   clear hd hold
   refine ⟨_, rfl, gd rfl ?_⟩
   exact Does.is (d_fieldAddr (j := 0) Try.underlying49 rfl s_ti3 (by decide) rfl rfl)
  refine ls_cons ?_ ?_
  ·
   intro v19 lo hi w_ k_ hO hd _ _ hk_ _ hR hold
   obtain ⟨r_a13, r_a17⟩ := hR
   have e1 : v19 1 = (ptr gb 0) := hd 1 kr
   clear hd hold
   refine ⟨_, rfl, gd rfl ?_⟩
   exact Does.is (d_load (v := (eN D)) ⟨_, Try.underlying3, rfl⟩ e1 r_a13 rfl)
  refine ls_cons ?_ ?_
  ·
   intro v19 lo hi w_ k_ hO hd _ _ hk_ _ hR hold
   obtain ⟨r_a13, r_a17⟩ := hR
   clear hd hold
   refine ⟨_, rfl, gd rfl ?_⟩
   exact Does.is (d_fieldAddr (j := 1) Try.underlying49 rfl s_ti3 (by decide) rfl rfl)
  refine ls_cons ?_ ?_
  ·
   intro v19 lo hi w_ k_ hO hd _ _ hk_ _ hR hold
   obtain ⟨r_a13, r_a17⟩ := hR
   have e3 : v19 3 = (ptr gb 1) := hd 3 kr
   clear hd hold
   refine ⟨_, rfl, gd rfl ?_⟩
   exact Does.is (d_load (v := (eN B)) ⟨_, Try.underlying3, rfl⟩ e3 r_a13 rfl)
  refine ls_cons ?_ ?_
  ·
   intro v19 lo hi w_ k_ hO hd _ _ hk_ _ hR hold
   obtain ⟨r_a13, r_a17⟩ := hR
   have e2 : v19 2 = (eN D) := hd 2 kr
   have e4 : v19 4 = (eN B) := hd 4 kr
   clear hd hold
   refine ⟨_, rfl, gd rfl ?_⟩
   exact Does.is (n_mul (a := D) (b := B) e2 e4 oo)
  refine ls_cons ?_ ?_
  ·
   intro v19 lo hi w_ k_ hO hd _ _ hk_ _ hR hold
   obtain ⟨r_a13, r_a17⟩ := hR
   clear hd hold
   refine ⟨_, rfl, gd rfl ?_⟩
   exact Does.is (d_fieldAddr (j := 2) Try.underlying49 rfl s_ti3 (by decide) rfl rfl)
  refine ls_cons ?_ ?_
  ·
   intro v19 lo hi w_ k_ hO hd _ _ hk_ _ hR hold
   obtain ⟨r_a13, r_a17⟩ := hR
   have e6 : v19 6 = (ptr gb 2) := hd 6 kr
   clear hd hold
   refine ⟨_, rfl, gd rfl ?_⟩
   exact Does.is (d_load (v := (eN Q)) ⟨_, Try.underlying3, rfl⟩ e6 r_a13 rfl)
  refine ls_cons ?_ ?_
  ·
   intro v19 lo hi w_ k_ hO hd _ _ hk_ _ hR hold
   obtain ⟨r_a13, r_a17⟩ := hR
   have e5 : v19 5 = (eN (D * B)) := hd 5 kr
   have e7 : v19 7 = (eN Q) := hd 7 kr
   clear hd hold
   refine ⟨_, rfl, gd rfl ?_⟩
   exact Does.is (n_mul (a := (D * B)) (b := Q) e5 e7 oo)
  refine ls_cons ?_ ?_
  ·
   intro v19 lo hi w_ k_ hO hd _ _ hk_ _ hR hold
   obtain ⟨r_a13, r_a17⟩ := hR
   have e8 : v19 8 = (eN ((D * B) * Q)) := hd 8 kr
   clear hd hold
   refine ⟨_, rfl, gd rfl ?_⟩
   refine Does.mono (d_make1 (n := (D * B) * Q) Try.underlying29 s_ti22 e8 e8 oo oo rfl) (fun u w' h => by obtain ⟨b_, rfl, hb_, hA_, hO_⟩ := h; exact ⟨⟨b_, rfl, hA_, Nat.le_trans hO.size hb_⟩, hO_⟩)
  exact ls_nil
 ·
  exact ms_nil
 intro v19 lo_ hi_ w20 o21 hd iv_ hR
 have e0 : v19 0 = (Value.agg #[(eN D), (eN B), (eN Q)]) := hd 0 (by decide)
 have e1 : v19 1 = (ptr gb 0) := hd 1 (by decide)
 have e2 : v19 2 = (eN D) := hd 2 (by decide)
 have e3 : v19 3 = (ptr gb 1) := hd 3 (by decide)
 have e4 : v19 4 = (eN B) := hd 4 (by decide)
 have e5 : v19 5 = (eN (D * B)) := hd 5 (by decide)
 have e6 : v19 6 = (ptr gb 2) := hd 6 (by decide)
 have e7 : v19 7 = (eN Q) := hd 7 (by decide)
 have e8 : v19 8 = (eN ((D * B) * Q)) := hd 8 (by decide)
 obtain ⟨q, e9, a22, g23⟩ : ∃ b_, v19 9 = (fun b_ => (sli b_ 0 ((D * B) * Q) ((D * B) * Q))) b_ ∧ Arr 22 b_ (List.replicate ((D * B) * Q) (Value.slice none 0 0)) w20 ∧ w15.heap.size ≤ b_ := hd 9 (by decide)
 dsimp only at e9
 have n_gb_q : gb ≠ q := a13.ne g23
 have n_r_q : r ≠ q := a17.ne g23
 have g_oW_q : W.heap.size ≤ q := Nat.le_trans oW.size g23
 clear hd iv_ lo_ hi_
 refine wpL.flat [(Value.agg #[(eN D), (eN B), (eN Q)]), (ptr gb 0), (ptr r 0), (Value.agg #[(eN D), (eN B), (eN Q)]), (ptr gb 0), (eN D), (ptr gb 1), (eN B), (eN (D * B)), (ptr gb 2), (eN Q), (eN ((D * B) * Q)), (sli q 0 ((D * B) * Q) ((D * B) * Q)), undef] (by rw [e0, e1, e2, e3, e4, e5, e6, e7, e8, e9] <;> rfl) ?_
 clear e0 e1 e2 e3 e4 e5 e6 e7 e8 e9
 obtain ⟨xr_a13, xr_a17⟩ := hR
 replace a13 : Arr 49 gb [(eN D), (eN B), (eN Q)] w20 := xr_a13
 replace a17 : Arr 73 r [(eN 0), (eN 0), (eN 0), (Value.slice none 0 0)] w20 := xr_a17
 clear xr_a13 xr_a17
 replace oW := oW.tail o21 (tl_new g_oW_r (tl_new g_oW_gb tl_no))
 refine wI (d_buildS (pl := [(0, 3), (3, 1)]) (zs := [(eN 0), (eN 0), (eN 0), (Value.slice none 0 0)]) (cs := [(eN D), (eN B), (eN Q), (sli q 0 ((D * B) * Q) ((D * B) * Q))]) Try.underlying73 s_ti73 ⟨_, _, _, _, rfl, s_ti49, ⟨_, _, _, _, rfl, s_ti29, rfl⟩⟩ rfl (parts_cons (vs := [(eN D), (eN B), (eN Q)]) (cells_of (v := (Value.agg #[(eN D), (eN B), (eN Q)])) rfl rfl) (parts_cons (vs := [(sli q 0 ((D * B) * Q) ((D * B) * Q))]) (cells_of (v := (sli q 0 ((D * B) * Q) ((D * B) * Q))) rfl rfl) parts_nil)) rfl) ?_
 refine wO (d_storeAg (cs' := [(eN D), (eN B), (eN Q), (sli q 0 ((D * B) * Q) ((D * B) * Q))]) s_ti73 rfl rfl rfl (oc_cons rfl (oc_cons rfl (oc_cons rfl (oc_cons rfl oc_nil)))) a17 (by decide) rfl) ?_
 rintro _ w24 ⟨a25, o26⟩
 replace a13 := a13.step o26 (fun e => absurd e n_gb_r)
 replace a22 := a22.step o26 (fun e => absurd e (Ne.symm n_r_q))
 replace oW := oW.tailb o26 g_oW_r
 refine wF [(Value.agg #[(eN D), (eN B), (eN Q)]), (ptr gb 0), (ptr r 0), (Value.agg #[(eN D), (eN B), (eN Q)]), (ptr gb 0), (eN D), (ptr gb 1), (eN B), (eN (D * B)), (ptr gb 2), (eN Q), (eN ((D * B) * Q)), (sli q 0 ((D * B) * Q) ((D * B) * Q)), (Value.agg #[(eN D), (eN B), (eN Q), (sli q 0 ((D * B) * Q) ((D * B) * Q))])] ?_
 refine wD (tN ?_)
 refine wpIn_ret ?_
 refine leave0 (v := (Value.agg #[(eN D), (eN B), (eN Q), (sli q 0 ((D * B) * Q) ((D * B) * Q))])) (resC Try.results49 ⟨_, Try.underlying73, rfl⟩ s_ti73 rfl a25 rfl) ?_
 exact ⟨q, rfl, g_oW_q, a22, oW⟩
theorem noneZ_ok (D B Q : Nat) (W : World) (hD : 6 ≤ D ∧ D ≤ 8) (hB : 8 ≤ B ∧ B ≤ 12) (hQ : 4 ≤ Q ∧ Q ≤ 8) :
    CW Try.prog 50 #[(Value.agg #[(eN D), (eN B), (eN Q)])] W (Rt (Made 23 W (fun b_ => .agg #[eN D, eN B, eN Q, sli b_ 0 (D * B * Q) (D * B * Q)]) (List.replicate (D * B * Q) (Value.slice none 0 0)))) := by
 have oW : Only No W W := Only.refl _ _
 refine enter (al := [(Value.agg #[(eN D), (eN B), (eN Q)])]) (k := 13) (l := ([(Value.agg #[(eN D), (eN B), (eN Q)])] ++ (us 13))) Try.func50 rfl Try.ntmps50 rfl rfl ?_
 have m1_ : D * B ≤ 8 * 12 := Nat.mul_le_mul hD.2 hB.2
 have m2_ : D * B * Q ≤ 8 * 12 * 8 := Nat.mul_le_mul m1_ hQ.2
 refine wQ (pL ?_)
 refine wO (d_box rfl rfl) ?_
 rintro _ w11 ⟨gb, rfl, g12, a13, o14⟩
 have g_oW_gb : W.heap.size ≤ gb := Nat.le_trans oW.size g12
 replace oW := oW.tail0 o14
 refine wO (d_alloc s_ti77 rfl) ?_
 rintro _ w15 ⟨r, rfl, g16, a17, o18⟩
 have n_gb_r : gb ≠ r := a13.ne g16
 have g_oW_r : W.heap.size ≤ r := Nat.le_trans oW.size g16
 replace a13 := a13.step0 o18
 replace oW := oW.tail0 o18
 refine wD (tN (wQ ?_))
 refine wp_eq (l' := ([(Value.agg #[(eN D), (eN B), (eN Q)]), (ptr gb 0), (ptr r 0)] ++ (us 11))) rfl ?_
 have hX0_ : ∀ k, (Or1 r (Or1 gb (Old W.heap.size))) k → k < w15.heap.size := (lt_or1 a17.lt (lt_or1 a13.lt (fun k t => Nat.lt_of_lt_of_le t oW.size)))
 have hO0_ : ∀ k, (Or1 r (Or1 gb No)) k → k < w15.heap.size := fun k h => hX0_ k ((or1_mono (or1_mono no_any)) k h)
 refine drawnT (O := (Or1 r (Or1 gb No))) (n := 12) 10 [0, 0, 2, 0, 8, 30, 0, 64, 254, 510, 1023, 2047] [(0, 3), (1, 4), (2, 5), (3, 6), (4, 7), (5, 8), (6, 9), (7, 10), (8, 11), (9, 12), (10, 13)] [(0, 3), (1, 4), (2, 5), (3, 6), (4, 7), (5, 8), (6, 9), (7, 10), (8, 11), (9, 12)] [0, 1, 2, 3, 4, 5, 6, 7, 8, 9] [] (fun i_ => ([RF.is (Or1 r (Or1 gb No)) (Value.agg #[(eN D), (eN B), (eN Q)]), RF.is (Or1 r (Or1 gb No)) (ptr gb 0), RF.is (Or1 r (Or1 gb No)) (eN D), RF.is (Or1 r (Or1 gb No)) (ptr gb 1), RF.is (Or1 r (Or1 gb No)) (eN B), RF.is (Or1 r (Or1 gb No)) (eN (D * B)), RF.is (Or1 r (Or1 gb No)) (ptr gb 2), RF.is (Or1 r (Or1 gb No)) (eN Q), RF.is (Or1 r (Or1 gb No)) (eN ((D * B) * Q)), RF.mk_ (Or1 r (Or1 gb No)) (fun b_ => (sli b_ 0 ((D * B) * Q) ((D * B) * Q))) 23 (List.replicate ((D * B) * Q) (Value.slice none 0 0)) w15.heap.size hO0_] : List (RF (Or1 r (Or1 gb No)))).getD i_ (RF.any (Or1 r (Or1 gb No)))) (fun _ w_ => Arr 49 gb [(eN D), (eN B), (eN Q)] w_ ∧ Arr 77 r [(eN 0), (eN 0), (eN 0), (Value.slice none 0 0)] w_) (fun v19 => [(Value.agg #[(eN D), (eN B), (eN Q)]), (ptr gb 0), (ptr r 0), (v19 0), (v19 1), (v19 2), (v19 3), (v19 4), (v19 5), (v19 6), (v19 7), (v19 8), (v19 9), (v19 10)]) (fun v19 => [(Value.agg #[(eN D), (eN B), (eN Q)]), (ptr gb 0), (ptr r 0), (v19 0), (v19 1), (v19 2), (v19 3), (v19 4), (v19 5), (v19 6), (v19 7), (v19 8), (v19 9), undef]) s_mx kr rfl (by decide) (by rfl) kr kr kr (by rfl) (fun v_ => by kernel_rfl) (fun v_ => by kernel_rfl) (fun _ => fun w_ w2_ h ho => by obtain ⟨r_a13, r_a17⟩ := h; exact ⟨r_a13.step0 ho, r_a17.step0 ho⟩) ⟨a13, a17⟩ ?_ ?_ ?_
 ·
  refine ls_cons ?_ ?_
  ·
   intro v19 lo hi w_ k_ hO hd _ _ hk_ _ hR hold
   obtain ⟨r_a13, r_a17⟩ := hR
   clear hd hold
   refine ⟨_, rfl, gd rfl ?_⟩
   exact Does.is (d_loadAg (vs := [(eN D), (eN B), (eN Q)]) ⟨_, Try.underlying49, rfl⟩ s_ti49 rfl r_a13 rfl rfl)
  refine ls_cons ?_ ?_
  ·
   intro v19 lo hi w_ k_ hO hd _ _ hk_ _ hR hold
   obtain ⟨r_a13, r_a17⟩ := hR
   clear hd hold
   refine ⟨_, rfl, gd rfl ?_⟩
   exact Does.is (d_fieldAddr (j := 0) Try.underlying49 rfl s_ti3 (by decide) rfl rfl)
  refine ls_cons ?_ ?_
  ·
   intro v19 lo hi w_ k_ hO hd _ _ hk_ _ hR hold
   obtain ⟨r_a13, r_a17⟩ := hR
   have e1 : v19 1 = (ptr gb 0) := hd 1 kr
   clear hd hold
   refine ⟨_, rfl, gd rfl ?_⟩
   exact Does.is (d_load (v := (eN D)) ⟨_, Try.underlying3, rfl⟩ e1 r_a13 rfl)
  refine ls_cons ?_ ?_
  ·
   intro v19 lo hi w_ k_ hO hd _ _ hk_ _ hR hold
   obtain ⟨r_a13, r_a17⟩ := hR
   clear hd hold
   refine ⟨_, rfl, gd rfl ?_⟩
   exact Does.is (d_fieldAddr (j := 1) Try.underlying49 rfl s_ti3 (by decide) rfl rfl)
  refine ls_cons ?_ ?_
  ·
   intro v19 lo hi w_ k_ hO hd _ _ hk_ _ hR hold
   obtain ⟨r_a13, r_a17⟩ := hR
   have e3 : v19 3 = (ptr gb 1) := hd 3 kr
   clear hd hold
   refine ⟨_, rfl, gd rfl ?_⟩
   exact Does.is (d_load (v := (eN B)) ⟨_, Try.underlying3, rfl⟩ e3 r_a13 rfl)
  refine ls_cons ?_ ?_
  ·
   intro v19 lo hi w_ k_ hO hd _ _ hk_ _ hR hold
   obtain ⟨r_a13, r_a17⟩ := hR
   have e2 : v19 2 = (eN D) := hd 2 kr
   have e4 : v19 4 = (eN B) := hd 4 kr
   clear hd hold
   refine ⟨_, rfl, gd rfl ?_⟩
   exact Does.is (n_mul (a := D) (b := B) e2 e4 oo)
  refine ls_cons ?_ ?_
  ·
   intro v19 lo hi w_ k_ hO hd _ _ hk_ _ hR hold
   obtain ⟨r_a13, r_a17⟩ := hR
   clear hd hold
   refine ⟨_, rfl, gd rfl ?_⟩
   exact Does.is (d_fieldAddr (j := 2) Try.underlying49 rfl s_ti3 (by decide) rfl rfl)
  refine ls_cons ?_ ?_
  ·
   intro v19 lo hi w_ k_ hO hd _ _ hk_ _ hR hold
   obtain ⟨r_a13, r_a17⟩ := hR
   have e6 : v19 6 = (ptr gb 2) := hd 6 kr
   clear hd hold
   refine ⟨_, rfl, gd rfl ?_⟩
   exact Does.is (d_load (v := (eN Q)) ⟨_, Try.underlying3, rfl⟩ e6 r_a13 rfl)
  refine ls_cons ?_ ?_
  ·
   intro v19 lo hi w_ k_ hO hd _ _ hk_ _ hR hold
   obtain ⟨r_a13, r_a17⟩ := hR
   have e5 : v19 5 = (eN (D * B)) := hd 5 kr
   have e7 : v19 7 = (eN Q) := hd 7 kr
   clear hd hold
   refine ⟨_, rfl, gd rfl ?_⟩
   exact Does.is (n_mul (a := (D * B)) (b := Q) e5 e7 oo)
  refine ls_cons ?_ ?_
  ·
   intro v19 lo hi w_ k_ hO hd _ _ hk_ _ hR hold
   obtain ⟨r_a13, r_a17⟩ := hR
   have e8 : v19 8 = (eN ((D * B) * Q)) := hd 8 kr
   clear hd hold
   refine ⟨_, rfl, gd rfl ?_⟩
   refine Does.mono (d_make1 (n := (D * B) * Q) Try.underlying75 s_ti23 e8 e8 oo oo rfl) (fun u w' h => by obtain ⟨b_, rfl, hb_, hA_, hO_⟩ := h; exact ⟨⟨b_, rfl, hA_, Nat.le_trans hO.size hb_⟩, hO_⟩)
  exact ls_nil
 ·
  exact ms_nil
 intro v19 lo_ hi_ w20 o21 hd iv_ hR
 have e0 : v19 0 = (Value.agg #[(eN D), (eN B), (eN Q)]) := hd 0 (by decide)
 have e1 : v19 1 = (ptr gb 0) := hd 1 (by decide)
 have e2 : v19 2 = (eN D) := hd 2 (by decide)
 have e3 : v19 3 = (ptr gb 1) := hd 3 (by decide)
 have e4 : v19 4 = (eN B) := hd 4 (by decide)
 have e5 : v19 5 = (eN (D * B)) := hd 5 (by decide)
 have e6 : v19 6 = (ptr gb 2) := hd 6 (by decide)
 have e7 : v19 7 = (eN Q) := hd 7 (by decide)
 have e8 : v19 8 = (eN ((D * B) * Q)) := hd 8 (by decide)
 obtain ⟨q, e9, a22, g23⟩ : ∃ b_, v19 9 = (fun b_ => (sli b_ 0 ((D * B) * Q) ((D * B) * Q))) b_ ∧ Arr 23 b_ (List.replicate ((D * B) * Q) (Value.slice none 0 0)) w20 ∧ w15.heap.size ≤ b_ := hd 9 (by decide)
 dsimp only at e9
 have n_gb_q : gb ≠ q := a13.ne g23
 have n_r_q : r ≠ q := a17.ne g23
 have g_oW_q : W.heap.size ≤ q := Nat.le_trans oW.size g23
 clear hd iv_ lo_ hi_
 refine wpL.flat [(Value.agg #[(eN D), (eN B), (eN Q)]), (ptr gb 0), (ptr r 0), (Value.agg #[(eN D), (eN B), (eN Q)]), (ptr gb 0), (eN D), (ptr gb 1), (eN B), (eN (D * B)), (ptr gb 2), (eN Q), (eN ((D * B) * Q)), (sli q 0 ((D * B) * Q) ((D * B) * Q)), undef] (by rw [e0, e1, e2, e3, e4, e5, e6, e7, e8, e9] <;> rfl) ?_
 clear e0 e1 e2 e3 e4 e5 e6 e7 e8 e9
 obtain ⟨xr_a13, xr_a17⟩ := hR
 replace a13 : Arr 49 gb [(eN D), (eN B), (eN Q)] w20 := xr_a13
 replace a17 : Arr 77 r [(eN 0), (eN 0), (eN 0), (Value.slice none 0 0)] w20 := xr_a17
 clear xr_a13 xr_a17
 replace oW := oW.tail o21 (tl_new g_oW_r (tl_new g_oW_gb tl_no))
 refine wI (d_buildS (pl := [(0, 3), (3, 1)]) (zs := [(eN 0), (eN 0), (eN 0), (Value.slice none 0 0)]) (cs := [(eN D), (eN B), (eN Q), (sli q 0 ((D * B) * Q) ((D * B) * Q))]) Try.underlying77 s_ti77 ⟨_, _, _, _, rfl, s_ti49, ⟨_, _, _, _, rfl, s_ti75, rfl⟩⟩ rfl (parts_cons (vs := [(eN D), (eN B), (eN Q)]) (cells_of (v := (Value.agg #[(eN D), (eN B), (eN Q)])) rfl rfl) (parts_cons (vs := [(sli q 0 ((D * B) * Q) ((D * B) * Q))]) (cells_of (v := (sli q 0 ((D * B) * Q) ((D * B) * Q))) rfl rfl) parts_nil)) rfl) ?_
 refine wO (d_storeAg (cs' := [(eN D), (eN B), (eN Q), (sli q 0 ((D * B) * Q) ((D * B) * Q))]) s_ti77 rfl rfl rfl (oc_cons rfl (oc_cons rfl (oc_cons rfl (oc_cons rfl oc_nil)))) a17 (by decide) rfl) ?_
 rintro _ w24 ⟨a25, o26⟩
 replace a13 := a13.step o26 (fun e => absurd e n_gb_r)
 replace a22 := a22.step o26 (fun e => absurd e (Ne.symm n_r_q))
 replace oW := oW.tailb o26 g_oW_r
 refine wF [(Value.agg #[(eN D), (eN B), (eN Q)]), (ptr gb 0), (ptr r 0), (Value.agg #[(eN D), (eN B), (eN Q)]), (ptr gb 0), (eN D), (ptr gb 1), (eN B), (eN (D * B)), (ptr gb 2), (eN Q), (eN ((D * B) * Q)), (sli q 0 ((D * B) * Q) ((D * B) * Q)), (Value.agg #[(eN D), (eN B), (eN Q), (sli q 0 ((D * B) * Q) ((D * B) * Q))])] ?_
 refine wD (tN ?_)
 refine wpIn_ret ?_
 refine leave0 (v := (Value.agg #[(eN D), (eN B), (eN Q), (sli q 0 ((D * B) * Q) ((D * B) * Q))])) (resC Try.results50 ⟨_, Try.underlying77, rfl⟩ s_ti77 rfl a25 rfl) ?_
 exact ⟨q, rfl, g_oW_q, a22, oW⟩
theorem new0_ok (D B Q : Nat) (W : World) (hD : 6 ≤ D ∧ D ≤ 8) (hB : 8 ≤ B ∧ B ≤ 12) (hQ : 4 ≤ Q ∧ Q ≤ 8) :
    CW Try.prog 28 #[(Value.agg #[(eN D), (eN B), (eN Q)]), (Value.slice none 0 0)] W (Rt (fun u w => ∃ L, u = .tuple #[ptr L.bN 0, eN 0] ∧ (Nd L (NS.new D B Q (fun _ _ => false)) (Old W.heap.size) w ∧ ∀ k, L.S k → W.heap.size ≤ k) ∧ Only No W w)) := by
 have oW : Only No W W := Only.refl _ _
 refine enter (al := [(Value.agg #[(eN D), (eN B), (eN Q)]), (Value.slice none 0 0)]) (k := 80) (l := ([(Value.agg #[(eN D), (eN B), (eN Q)]), (Value.slice none 0 0)] ++ (us 80))) Try.func28 rfl Try.ntmps28 rfl rfl ?_
 have m1_ : D * B ≤ 8 * 12 := Nat.mul_le_mul hD.2 hB.2
 have m2_ : D * B * Q ≤ 8 * 12 * 8 := Nat.mul_le_mul m1_ hQ.2
 refine wQ (pL ?_)
 refine wO (d_box rfl rfl) ?_
 rintro _ w11 ⟨gb, rfl, g12, a13, o14⟩
 have g_oW_gb : W.heap.size ≤ gb := Nat.le_trans oW.size g12
 replace oW := oW.tail0 o14
 refine wI (d_assign rfl) ?_
 refine wI (d_assign rfl) ?_
 refine wD (tN (wQ (wQ (pL ?_))))
 refine wI (d_loadAg (vs := [(eN D), (eN B), (eN Q)]) ⟨_, Try.underlying49, rfl⟩ s_ti49 rfl a13 rfl rfl) ?_
 refine wO (d_call (xl := [.tmp 10]) (al := [(Value.agg #[(eN D), (eN B), (eN Q)])]) Try.func48 kr rfl rfl rfl (fits_ok D B Q _ oo oo oo)) ?_
 rintro _ w15 ⟨rfl, o16⟩
 replace a13 := a13.step0 o16
 replace oW := oW.tail0 o16
 refine wI (d_not rfl rfl) ?_
 refine wD (tN ?_)
 refine cond_f rfl ?_
 refine wK (tN (wQ ?_))
 refine wp_eq (l' := ([(Value.agg #[(eN D), (eN B), (eN Q)]), (Value.slice none 0 0), (ptr gb 0), undef, (Value.pointer none), (eN 0), undef, undef, undef, undef, (Value.agg #[(eN D), (eN B), (eN Q)]), vT, vF] ++ (us 69))) rfl ?_
 have hX0_ : ∀ k, (Or1 gb (Old W.heap.size)) k → k < w15.heap.size := (lt_or1 a13.lt (fun k t => Nat.lt_of_lt_of_le t oW.size))
 have hO0_ : ∀ k, (Or1 gb No) k → k < w15.heap.size := fun k h => hX0_ k ((or1_mono no_any) k h)
 refine drawnT (O := (Or1 gb No)) (n := 8) 5 [0, 0, 2, 0, 14, 31, 63, 127] [(0, 13), (1, 14), (2, 15), (3, 16), (4, 17), (5, 18), (6, 19), (7, 6)] [(0, 13), (1, 14), (2, 15), (3, 16), (4, 17)] [0, 1, 2, 3, 4] [] (fun i_ => ([RF.is (Or1 gb No) (Value.agg #[(eN D), (eN B), (eN Q)]), RF.is (Or1 gb No) (Value.agg #[(eN D), (eN B), (eN Q)]), RF.mk_ (Or1 gb No) (fun b_ => (Value.agg #[(eN D), (eN B), (eN Q), (sli b_ 0 (D * B * Q) (D * B * Q))])) 22 (List.replicate (D * B * Q) (Value.slice none 0 0)) w15.heap.size hO0_, RF.is (Or1 gb No) (Value.agg #[(eN D), (eN B), (eN Q)]), RF.mk_ (Or1 gb No) (fun b_ => (Value.agg #[(eN D), (eN B), (eN Q), (sli b_ 0 (D * B * Q) (D * B * Q))])) 23 (List.replicate (D * B * Q) (Value.slice none 0 0)) w15.heap.size hO0_] : List (RF (Or1 gb No))).getD i_ (RF.any (Or1 gb No))) (fun _ w_ => Arr 49 gb [(eN D), (eN B), (eN Q)] w_) (fun v17 => ([(Value.agg #[(eN D), (eN B), (eN Q)]), (Value.slice none 0 0), (ptr gb 0), undef, (Value.pointer none), (eN 0), (v17 7), undef, undef, undef, (Value.agg #[(eN D), (eN B), (eN Q)]), vT, vF, (v17 0), (v17 1), (v17 2), (v17 3), (v17 4), (v17 5), (v17 6)] ++ (us 62))) (fun v17 => ([(Value.agg #[(eN D), (eN B), (eN Q)]), (Value.slice none 0 0), (ptr gb 0), undef, (Value.pointer none), (eN 0), undef, undef, undef, undef, (Value.agg #[(eN D), (eN B), (eN Q)]), vT, vF, (v17 0), (v17 1), (v17 2), (v17 3), (v17 4)] ++ (us 64))) s_mx kr rfl (by decide) (by rfl) kr kr kr (by rfl) (fun v_ => by kernel_rfl) (fun v_ => by kernel_rfl) (fun _ => fun w_ w2_ h ho => by have r_a13 := h; exact r_a13.step0 ho) a13 ?_ ?_ ?_
 ·
  refine ls_cons ?_ ?_
  ·
   intro v17 lo hi w_ k_ hO hd _ _ hk_ _ hR hold
   have r_a13 := hR
   clear hd hold
   refine ⟨_, rfl, gd rfl ?_⟩
   exact Does.is (d_loadAg (vs := [(eN D), (eN B), (eN Q)]) ⟨_, Try.underlying49, rfl⟩ s_ti49 rfl r_a13 rfl rfl)
  refine ls_cons ?_ ?_
  ·
   intro v17 lo hi w_ k_ hO hd _ _ hk_ _ hR hold
   have r_a13 := hR
   clear hd hold
   refine ⟨_, rfl, gd rfl ?_⟩
   exact Does.is (d_loadAg (vs := [(eN D), (eN B), (eN Q)]) ⟨_, Try.underlying49, rfl⟩ s_ti49 rfl r_a13 rfl rfl)
  refine ls_cons ?_ ?_
  ·
   intro v17 lo hi w_ k_ hO hd _ _ hk_ _ hR hold
   have r_a13 := hR
   have e1 : v17 1 = (Value.agg #[(eN D), (eN B), (eN Q)]) := hd 1 kr
   clear hd hold
   refine ⟨_, rfl, gd rfl ?_⟩
   refine Does.mono (R := Made 22 w_ (fun b_ => (Value.agg #[(eN D), (eN B), (eN Q), (sli b_ 0 (D * B * Q) (D * B * Q))])) (List.replicate (D * B * Q) (Value.slice none 0 0))) ?_ (fun u w' h => by obtain ⟨b_, rfl, hb_, hA_, hO_⟩ := h; exact ⟨⟨b_, rfl, hA_, Nat.le_trans hO.size hb_⟩, hO_⟩)
   exact d_call (xl := [.tmp 14]) (al := [(Value.agg #[(eN D), (eN B), (eN Q)])]) Try.func49 kr rfl (show ([(v17 1)] : List Value) = [(Value.agg #[(eN D), (eN B), (eN Q)])] from by rw [e1]) rfl (noneD_ok D B Q _ oo oo oo)
  refine ls_cons ?_ ?_
  ·
   intro v17 lo hi w_ k_ hO hd _ _ hk_ _ hR hold
   have r_a13 := hR
   clear hd hold
   refine ⟨_, rfl, gd rfl ?_⟩
   exact Does.is (d_loadAg (vs := [(eN D), (eN B), (eN Q)]) ⟨_, Try.underlying49, rfl⟩ s_ti49 rfl r_a13 rfl rfl)
  refine ls_cons ?_ ?_
  ·
   intro v17 lo hi w_ k_ hO hd _ _ hk_ _ hR hold
   have r_a13 := hR
   have e3 : v17 3 = (Value.agg #[(eN D), (eN B), (eN Q)]) := hd 3 kr
   clear hd hold
   refine ⟨_, rfl, gd rfl ?_⟩
   refine Does.mono (R := Made 23 w_ (fun b_ => (Value.agg #[(eN D), (eN B), (eN Q), (sli b_ 0 (D * B * Q) (D * B * Q))])) (List.replicate (D * B * Q) (Value.slice none 0 0))) ?_ (fun u w' h => by obtain ⟨b_, rfl, hb_, hA_, hO_⟩ := h; exact ⟨⟨b_, rfl, hA_, Nat.le_trans hO.size hb_⟩, hO_⟩)
   exact d_call (xl := [.tmp 16]) (al := [(Value.agg #[(eN D), (eN B), (eN Q)])]) Try.func50 kr rfl (show ([(v17 3)] : List Value) = [(Value.agg #[(eN D), (eN B), (eN Q)])] from by rw [e3]) rfl (noneZ_ok D B Q _ oo oo oo)
  exact ls_nil
 ·
  exact ms_nil
 intro v17 lo_ hi_ w18 o19 hd iv_ hR
 have e0 : v17 0 = (Value.agg #[(eN D), (eN B), (eN Q)]) := hd 0 (by decide)
 have e1 : v17 1 = (Value.agg #[(eN D), (eN B), (eN Q)]) := hd 1 (by decide)
 have e3 : v17 3 = (Value.agg #[(eN D), (eN B), (eN Q)]) := hd 3 (by decide)
 obtain ⟨db, e2, a20, g21⟩ : ∃ b_, v17 2 = (fun b_ => (Value.agg #[(eN D), (eN B), (eN Q), (sli b_ 0 (D * B * Q) (D * B * Q))])) b_ ∧ Arr 22 b_ (List.replicate (D * B * Q) (Value.slice none 0 0)) w18 ∧ w15.heap.size ≤ b_ := hd 2 (by decide)
 dsimp only at e2
 have n_gb_db : gb ≠ db := a13.ne g21
 have g_oW_db : W.heap.size ≤ db := Nat.le_trans oW.size g21
 obtain ⟨zb, e4, a22, g23⟩ : ∃ b_, v17 4 = (fun b_ => (Value.agg #[(eN D), (eN B), (eN Q), (sli b_ 0 (D * B * Q) (D * B * Q))])) b_ ∧ Arr 23 b_ (List.replicate (D * B * Q) (Value.slice none 0 0)) w18 ∧ w15.heap.size ≤ b_ := hd 4 (by decide)
 dsimp only at e4
 have n_gb_zb : gb ≠ zb := a13.ne g23
 have g_oW_zb : W.heap.size ≤ zb := Nat.le_trans oW.size g23
 have n_db_zb : db ≠ zb := arr_ne a20 a22 (by decide)
 clear hd iv_ lo_ hi_
 refine wpL.flat ([(Value.agg #[(eN D), (eN B), (eN Q)]), (Value.slice none 0 0), (ptr gb 0), undef, (Value.pointer none), (eN 0), undef, undef, undef, undef, (Value.agg #[(eN D), (eN B), (eN Q)]), vT, vF, (Value.agg #[(eN D), (eN B), (eN Q)]), (Value.agg #[(eN D), (eN B), (eN Q)]), (Value.agg #[(eN D), (eN B), (eN Q), (sli db 0 (D * B * Q) (D * B * Q))]), (Value.agg #[(eN D), (eN B), (eN Q)]), (Value.agg #[(eN D), (eN B), (eN Q), (sli zb 0 (D * B * Q) (D * B * Q))])] ++ (us 64)) (by rw [e0, e1, e3, e2, e4] <;> rfl) ?_
 clear e0 e1 e3 e2 e4
 replace a13 : Arr 49 gb [(eN D), (eN B), (eN Q)] w18 := hR
 clear hR
 replace oW := oW.tail o19 (tl_new g_oW_gb tl_no)
 refine wI (d_buildS (pl := [(0, 3), (3, 4), (7, 4), (11, 1), (12, 1), (13, 1), (14, 1), (15, 1), (16, 1)]) (zs := [(eN 0), (eN 0), (eN 0), (eN 0), (eN 0), (eN 0), (Value.slice none 0 0), (eN 0), (eN 0), (eN 0), (Value.slice none 0 0), (Value.slice none 0 0), (eN 0), (Value.slice none 0 0), vF, (eN 0), (eN 0)]) (cs := [(eN D), (eN B), (eN Q), (eN D), (eN B), (eN Q), (sli db 0 (D * B * Q) (D * B * Q)), (eN D), (eN B), (eN Q), (sli zb 0 (D * B * Q) (D * B * Q)), (Value.slice none 0 0), (eN 0), (Value.slice none 0 0), vF, (eN 0), (eN 0)]) Try.underlying81 s_ti81 ⟨_, _, _, _, rfl, s_ti49, ⟨_, _, _, _, rfl, s_ti73, ⟨_, _, _, _, rfl, s_ti77, ⟨_, _, _, _, rfl, s_ti79, ⟨_, _, _, _, rfl, s_ti3, ⟨_, _, _, _, rfl, s_ti22, ⟨_, _, _, _, rfl, s_ti4, ⟨_, _, _, _, rfl, s_ti3, ⟨_, _, _, _, rfl, s_ti3, rfl⟩⟩⟩⟩⟩⟩⟩⟩⟩ rfl (parts_cons (vs := [(eN D), (eN B), (eN Q)]) (cells_of (v := (Value.agg #[(eN D), (eN B), (eN Q)])) rfl rfl) (parts_cons (vs := [(eN D), (eN B), (eN Q), (sli db 0 (D * B * Q) (D * B * Q))]) (cells_of (v := (Value.agg #[(eN D), (eN B), (eN Q), (sli db 0 (D * B * Q) (D * B * Q))])) rfl rfl) (parts_cons (vs := [(eN D), (eN B), (eN Q), (sli zb 0 (D * B * Q) (D * B * Q))]) (cells_of (v := (Value.agg #[(eN D), (eN B), (eN Q), (sli zb 0 (D * B * Q) (D * B * Q))])) rfl rfl) parts_nil))) rfl) ?_
 refine wO (d_box rfl rfl) ?_
 rintro _ w24 ⟨cb, rfl, g25, a26, o27⟩
 have n_gb_cb : gb ≠ cb := a13.ne g25
 have n_db_cb : db ≠ cb := a20.ne g25
 have n_zb_cb : zb ≠ cb := a22.ne g25
 have g_oW_cb : W.heap.size ≤ cb := Nat.le_trans oW.size g25
 replace a13 := a13.step0 o27
 replace a20 := a20.step0 o27
 replace a22 := a22.step0 o27
 replace oW := oW.tail0 o27
 refine wF ([(Value.agg #[(eN D), (eN B), (eN Q)]), (Value.slice none 0 0), (ptr gb 0), undef, (Value.pointer none), (eN 0), undef, undef, undef, undef, (Value.agg #[(eN D), (eN B), (eN Q)]), vT, vF, (Value.agg #[(eN D), (eN B), (eN Q)]), (Value.agg #[(eN D), (eN B), (eN Q)]), (Value.agg #[(eN D), (eN B), (eN Q), (sli db 0 (D * B * Q) (D * B * Q))]), (Value.agg #[(eN D), (eN B), (eN Q)]), (Value.agg #[(eN D), (eN B), (eN Q), (sli zb 0 (D * B * Q) (D * B * Q))]), (Value.agg #[(eN D), (eN B), (eN Q), (eN D), (eN B), (eN Q), (sli db 0 (D * B * Q) (D * B * Q)), (eN D), (eN B), (eN Q), (sli zb 0 (D * B * Q) (D * B * Q)), (Value.slice none 0 0), (eN 0), (Value.slice none 0 0), vF, (eN 0), (eN 0)]), (ptr cb 0)] ++ (us 62)) ?_
 refine wI (d_assign rfl) ?_
 refine wF ([(Value.agg #[(eN D), (eN B), (eN Q)]), (Value.slice none 0 0), (ptr gb 0), undef, (Value.pointer none), (eN 0), (ptr cb 0), undef, undef, undef, (Value.agg #[(eN D), (eN B), (eN Q)]), vT, vF, (Value.agg #[(eN D), (eN B), (eN Q)]), (Value.agg #[(eN D), (eN B), (eN Q)]), (Value.agg #[(eN D), (eN B), (eN Q), (sli db 0 (D * B * Q) (D * B * Q))]), (Value.agg #[(eN D), (eN B), (eN Q)]), (Value.agg #[(eN D), (eN B), (eN Q), (sli zb 0 (D * B * Q) (D * B * Q))]), (Value.agg #[(eN D), (eN B), (eN Q), (eN D), (eN B), (eN Q), (sli db 0 (D * B * Q) (D * B * Q)), (eN D), (eN B), (eN Q), (sli zb 0 (D * B * Q) (D * B * Q)), (Value.slice none 0 0), (eN 0), (Value.slice none 0 0), vF, (eN 0), (eN 0)]), (ptr cb 0)] ++ (us 62)) ?_
 refine wD (tN (wQ (wQ (pL ?_))))
 refine wI (d_move rfl) ?_
 refine wI (d_nilCheck (b := cb) (o := 0) rfl) ?_
 refine wI (d_fieldAddr (j := 3) Try.underlying81 rfl s_ti73 (by decide) rfl rfl) ?_
 refine wI (d_fieldAddr (j := 6) Try.underlying73 rfl s_ti29 (by decide) rfl rfl) ?_
 refine wI (d_load (v := (sli db 0 (D * B * Q) (D * B * Q))) ⟨_, Try.underlying29, rfl⟩ rfl a26 rfl) ?_
 refine wI (d_len rfl Try.underlying29 rfl) ?_
 refine wI (d_move rfl) ?_
 refine wF ([(Value.agg #[(eN D), (eN B), (eN Q)]), (Value.slice none 0 0), (ptr gb 0), undef, (Value.pointer none), (eN 0), (ptr cb 0), undef, undef, undef, (Value.agg #[(eN D), (eN B), (eN Q)]), vT, vF, (Value.agg #[(eN D), (eN B), (eN Q)]), (Value.agg #[(eN D), (eN B), (eN Q)]), (Value.agg #[(eN D), (eN B), (eN Q), (sli db 0 (D * B * Q) (D * B * Q))]), (Value.agg #[(eN D), (eN B), (eN Q)]), (Value.agg #[(eN D), (eN B), (eN Q), (sli zb 0 (D * B * Q) (D * B * Q))]), (Value.agg #[(eN D), (eN B), (eN Q), (eN D), (eN B), (eN Q), (sli db 0 (D * B * Q) (D * B * Q)), (eN D), (eN B), (eN Q), (sli zb 0 (D * B * Q) (D * B * Q)), (Value.slice none 0 0), (eN 0), (Value.slice none 0 0), vF, (eN 0), (eN 0)]), (ptr cb 0), (ptr cb 0), (ptr cb 0), (ptr cb 3), (ptr cb 6), (sli db 0 (D * B * Q) (D * B * Q)), (eN (D * B * Q)), (eN 0)] ++ (us 55)) ?_
 refine wD (tN (wB ?_))
 replace a20 : Arr 22 db ((List.replicate (D * B * Q) (Value.slice none 0 0)).map eV) w24 := by rw [map_eV]; exact a20
 have l_db : (List.replicate (D * B * Q) (Value.slice none 0 0)).length = D * B * Q := List.length_replicate
 refine loop2 (fun (s_ : (Nat) × (List Value)) => match s_ with | ⟨i, vd⟩ => fun (z : Nat → Value) => (([(Value.agg #[(eN D), (eN B), (eN Q)]), (Value.slice none 0 0), (ptr gb 0), undef, (Value.pointer none), (eN 0), (ptr cb 0), (z 7), undef, undef, (Value.agg #[(eN D), (eN B), (eN Q)]), vT, vF, (Value.agg #[(eN D), (eN B), (eN Q)]), (Value.agg #[(eN D), (eN B), (eN Q)]), (Value.agg #[(eN D), (eN B), (eN Q), (sli db 0 (D * B * Q) (D * B * Q))]), (Value.agg #[(eN D), (eN B), (eN Q)]), (Value.agg #[(eN D), (eN B), (eN Q), (sli zb 0 (D * B * Q) (D * B * Q))]), (Value.agg #[(eN D), (eN B), (eN Q), (eN D), (eN B), (eN Q), (sli db 0 (D * B * Q) (D * B * Q)), (eN D), (eN B), (eN Q), (sli zb 0 (D * B * Q) (D * B * Q)), (Value.slice none 0 0), (eN 0), (Value.slice none 0 0), vF, (eN 0), (eN 0)]), (ptr cb 0), (ptr cb 0), (ptr cb 0), (ptr cb 3), (ptr cb 6), (sli db 0 (D * B * Q) (D * B * Q)), (eN (D * B * Q)), (eN i)] ++ (zs z 27 11 ++ (us 44))) : List Value)) (fun (s_ : (Nat) × (List Value)) => match s_ with | ⟨i, vd⟩ => fun (w_ : World) => (i ≤ D * B * Q) ∧ (Ps (Or1 cb (Or1 zb (Or1 db (Or1 gb (Old W.heap.size))))) (Fam kB i (fun _ => onesW) vd) w_) ∧ Only (Or1 cb (Or1 zb (Or1 db (Or1 gb No)))) w24 w_ ∧ Arr 49 gb [(eN D), (eN B), (eN Q)] w_ ∧ vd.length = D * B * Q ∧ Arr 22 db (vd.map eV) w_ ∧ Arr 23 zb (List.replicate (D * B * Q) (Value.slice none 0 0)) w_ ∧ Arr 81 cb [(eN D), (eN B), (eN Q), (eN D), (eN B), (eN Q), (sli db 0 (D * B * Q) (D * B * Q)), (eN D), (eN B), (eN Q), (sli zb 0 (D * B * Q) (D * B * Q)), (Value.slice none 0 0), (eN 0), (Value.slice none 0 0), vF, (eN 0), (eN 0)] w_) (fun (s_ : (Nat) × (List Value)) => match s_ with | ⟨i, vd⟩ => D * B * Q - i) ⟨0, (List.replicate (D * B * Q) (Value.slice none 0 0))⟩ rfl ?_ ?_
 ·
  refine ⟨?_, ?_, ?_, ?_, ?_, ?_, ?_, ?_⟩
  ·
   exact Nat.zero_le _
  ·
   exact fun w' _ k hk => absurd hk (Nat.not_lt_zero k)
  ·
   exact Only.refl _ _
  ·
   exact a13
  ·
   exact l_db
  ·
   exact a20
  ·
   exact a22
  ·
   exact a26
 rintro ⟨i, vd⟩ z w29 ⟨hi, hF, o28, a13, l_db, a20, a22, a26⟩
 (try dsimp only)
 replace oW := oW.tail o28 (tl_new g_oW_cb (tl_new g_oW_zb (tl_new g_oW_db (tl_new g_oW_gb tl_no))))
 refine wQ (pL ?_)
 refine wI (n_lss (a := i) (b := (D * B * Q)) rfl rfl rfl) ?_
 refine wD (tN (wQ ?_))
 refine cond_if rfl (fun c30 => ?_) (fun c30 => ?_)
 ·
  refine wK (tN (wQ (wB (wQ (pL ?_)))))
  refine wI (d_move rfl) ?_
  refine wI (d_assign rfl) ?_
  refine wD (tN ?_)
  refine wp_eq (l' := ([(Value.agg #[(eN D), (eN B), (eN Q)]), (Value.slice none 0 0), (ptr gb 0), undef, (Value.pointer none), (eN 0), (ptr cb 0), (eN i), undef, undef, (Value.agg #[(eN D), (eN B), (eN Q)]), vT, vF, (Value.agg #[(eN D), (eN B), (eN Q)]), (Value.agg #[(eN D), (eN B), (eN Q)]), (Value.agg #[(eN D), (eN B), (eN Q), (sli db 0 (D * B * Q) (D * B * Q))]), (Value.agg #[(eN D), (eN B), (eN Q)]), (Value.agg #[(eN D), (eN B), (eN Q), (sli zb 0 (D * B * Q) (D * B * Q))]), (Value.agg #[(eN D), (eN B), (eN Q), (eN D), (eN B), (eN Q), (sli db 0 (D * B * Q) (D * B * Q)), (eN D), (eN B), (eN Q), (sli zb 0 (D * B * Q) (D * B * Q)), (Value.slice none 0 0), (eN 0), (Value.slice none 0 0), vF, (eN 0), (eN 0)]), (ptr cb 0), (ptr cb 0), (ptr cb 0), (ptr cb 3), (ptr cb 6), (sli db 0 (D * B * Q) (D * B * Q)), (eN (D * B * Q)), (eN i), (Value.bool (decide (i < (D * B * Q)))), (eN i)] ++ (zs z 29 9 ++ (us 44)))) rfl ?_
  refine drawnT (O := (Or1 cb (Or1 zb (Or1 db (Or1 gb No))))) (n := 9) 7 [0, 1, 3, 7, 15, 0, 0, 127, 255] [(0, 29), (1, 30), (2, 31), (3, 32), (4, 33), (5, 34), (6, 35), (7, 36)] [(0, 29), (1, 30), (2, 31), (3, 32), (4, 33), (5, 34), (6, 35)] [0, 1, 2, 3, 4, 5, 6] [] (fun i_ => ([RF.is (Or1 cb (Or1 zb (Or1 db (Or1 gb No)))) (ptr cb 0), RF.is (Or1 cb (Or1 zb (Or1 db (Or1 gb No)))) (ptr cb 0), RF.is (Or1 cb (Or1 zb (Or1 db (Or1 gb No)))) (ptr cb 3), RF.is (Or1 cb (Or1 zb (Or1 db (Or1 gb No)))) (ptr cb 6), RF.is (Or1 cb (Or1 zb (Or1 db (Or1 gb No)))) (sli db 0 (D * B * Q) (D * B * Q)), RF.is (Or1 cb (Or1 zb (Or1 db (Or1 gb No)))) (eN i), RF.ps (Or1 cb (Or1 zb (Or1 db (Or1 gb No)))) (Or1 cb (Or1 zb (Or1 db (Or1 gb (Old W.heap.size))))) (Seq kB onesW) (or1_mono (or1_mono (or1_mono (or1_mono no_any))))] : List (RF (Or1 cb (Or1 zb (Or1 db (Or1 gb No)))))).getD i_ (RF.any (Or1 cb (Or1 zb (Or1 db (Or1 gb No)))))) (fun _ w_ => Arr 49 gb [(eN D), (eN B), (eN Q)] w_ ∧ Arr 22 db (vd.map eV) w_ ∧ Arr 23 zb (List.replicate (D * B * Q) (Value.slice none 0 0)) w_ ∧ Arr 81 cb [(eN D), (eN B), (eN Q), (eN D), (eN B), (eN Q), (sli db 0 (D * B * Q) (D * B * Q)), (eN D), (eN B), (eN Q), (sli zb 0 (D * B * Q) (D * B * Q)), (Value.slice none 0 0), (eN 0), (Value.slice none 0 0), vF, (eN 0), (eN 0)] w_) (fun v31 => ([(Value.agg #[(eN D), (eN B), (eN Q)]), (Value.slice none 0 0), (ptr gb 0), undef, (Value.pointer none), (eN 0), (ptr cb 0), (eN i), undef, undef, (Value.agg #[(eN D), (eN B), (eN Q)]), vT, vF, (Value.agg #[(eN D), (eN B), (eN Q)]), (Value.agg #[(eN D), (eN B), (eN Q)]), (Value.agg #[(eN D), (eN B), (eN Q), (sli db 0 (D * B * Q) (D * B * Q))]), (Value.agg #[(eN D), (eN B), (eN Q)]), (Value.agg #[(eN D), (eN B), (eN Q), (sli zb 0 (D * B * Q) (D * B * Q))]), (Value.agg #[(eN D), (eN B), (eN Q), (eN D), (eN B), (eN Q), (sli db 0 (D * B * Q) (D * B * Q)), (eN D), (eN B), (eN Q), (sli zb 0 (D * B * Q) (D * B * Q)), (Value.slice none 0 0), (eN 0), (Value.slice none 0 0), vF, (eN 0), (eN 0)]), (ptr cb 0), (ptr cb 0), (ptr cb 0), (ptr cb 3), (ptr cb 6), (sli db 0 (D * B * Q) (D * B * Q)), (eN (D * B * Q)), (eN i), (Value.bool (decide (i < (D * B * Q)))), (eN i), (v31 0), (v31 1), (v31 2), (v31 3), (v31 4), (v31 5), (v31 6), (v31 7), (z 37)] ++ (us 44))) (fun v31 => ([(Value.agg #[(eN D), (eN B), (eN Q)]), (Value.slice none 0 0), (ptr gb 0), undef, (Value.pointer none), (eN 0), (ptr cb 0), (eN i), undef, undef, (Value.agg #[(eN D), (eN B), (eN Q)]), vT, vF, (Value.agg #[(eN D), (eN B), (eN Q)]), (Value.agg #[(eN D), (eN B), (eN Q)]), (Value.agg #[(eN D), (eN B), (eN Q), (sli db 0 (D * B * Q) (D * B * Q))]), (Value.agg #[(eN D), (eN B), (eN Q)]), (Value.agg #[(eN D), (eN B), (eN Q), (sli zb 0 (D * B * Q) (D * B * Q))]), (Value.agg #[(eN D), (eN B), (eN Q), (eN D), (eN B), (eN Q), (sli db 0 (D * B * Q) (D * B * Q)), (eN D), (eN B), (eN Q), (sli zb 0 (D * B * Q) (D * B * Q)), (Value.slice none 0 0), (eN 0), (Value.slice none 0 0), vF, (eN 0), (eN 0)]), (ptr cb 0), (ptr cb 0), (ptr cb 0), (ptr cb 3), (ptr cb 6), (sli db 0 (D * B * Q) (D * B * Q)), (eN (D * B * Q)), (eN i), (Value.bool (decide (i < (D * B * Q)))), (eN i), (v31 0), (v31 1), (v31 2), (v31 3), (v31 4), (v31 5), (v31 6), (z 36), (z 37)] ++ (us 44))) s_mx kr rfl (by decide) (by rfl) kr kr kr (by rfl) (fun v_ => by kernel_rfl) (fun v_ => by kernel_rfl) (fun _ => fun w_ w2_ h ho => by obtain ⟨r_a13, r_a20, r_a22, r_a26⟩ := h; exact ⟨r_a13.step0 ho, r_a20.step0 ho, r_a22.step0 ho, r_a26.step0 ho⟩) ⟨a13, a20, a22, a26⟩ ?_ ?_ ?_
  ·
   refine ls_cons ?_ ?_
   ·
    intro v31 lo hi w_ k_ hO hd _ _ hk_ _ hR hold
    obtain ⟨r_a13, r_a20, r_a22, r_a26⟩ := hR
    clear hd hold
    refine ⟨_, rfl, gd rfl ?_⟩
    exact Does.is (d_move rfl)
   refine ls_cons ?_ ?_
   ·
    intro v31 lo hi w_ k_ hO hd _ _ hk_ _ hR hold
    obtain ⟨r_a13, r_a20, r_a22, r_a26⟩ := hR
    have e0 : v31 0 = (ptr cb 0) := hd 0 kr
    clear hd hold
    refine ⟨_, rfl, gd rfl ?_⟩
    exact Does.is (d_nilCheck (b := cb) (o := 0) e0)
   refine ls_cons ?_ ?_
   ·
    intro v31 lo hi w_ k_ hO hd _ _ hk_ _ hR hold
    obtain ⟨r_a13, r_a20, r_a22, r_a26⟩ := hR
    have e1 : v31 1 = (ptr cb 0) := hd 1 kr
    clear hd hold
    refine ⟨_, rfl, gd rfl ?_⟩
    exact Does.is (d_fieldAddr (j := 3) Try.underlying81 rfl s_ti73 (by decide) e1 rfl)
   refine ls_cons ?_ ?_
   ·
    intro v31 lo hi w_ k_ hO hd _ _ hk_ _ hR hold
    obtain ⟨r_a13, r_a20, r_a22, r_a26⟩ := hR
    have e2 : v31 2 = (ptr cb 3) := hd 2 kr
    clear hd hold
    refine ⟨_, rfl, gd rfl ?_⟩
    exact Does.is (d_fieldAddr (j := 6) Try.underlying73 rfl s_ti29 (by decide) e2 rfl)
   refine ls_cons ?_ ?_
   ·
    intro v31 lo hi w_ k_ hO hd _ _ hk_ _ hR hold
    obtain ⟨r_a13, r_a20, r_a22, r_a26⟩ := hR
    have e3 : v31 3 = (ptr cb 6) := hd 3 kr
    clear hd hold
    refine ⟨_, rfl, gd rfl ?_⟩
    exact Does.is (d_load (v := (sli db 0 (D * B * Q) (D * B * Q))) ⟨_, Try.underlying29, rfl⟩ e3 r_a26 rfl)
   refine ls_cons ?_ ?_
   ·
    intro v31 lo hi w_ k_ hO hd _ _ hk_ _ hR hold
    obtain ⟨r_a13, r_a20, r_a22, r_a26⟩ := hR
    clear hd hold
    refine ⟨_, rfl, gd rfl ?_⟩
    exact Does.is (d_move rfl)
   refine ls_cons ?_ ?_
   ·
    intro v31 lo hi w_ k_ hO hd _ _ hk_ _ hR hold
    obtain ⟨r_a13, r_a20, r_a22, r_a26⟩ := hR
    clear hd hold
    refine ⟨_, rfl, gd rfl ?_⟩
    refine Does.mono (R := ROw 5 eB onesW w_) ?_ (fun u w' h => ⟨(h.ps).1.less (or1_old r_a26.lt (or1_old r_a22.lt (or1_old r_a20.lt (or1_old r_a13.lt (old_old (Nat.le_trans oW.size hO.size)))))), (h.ps).2⟩)
    exact d_call (xl := []) (al := []) Try.func51 kr rfl rfl rfl (blank_ok _)
   exact ls_nil
  ·
   exact ms_nil
  intro v31 lo_ hi_ w32 o33 hd iv_ hR
  have e0 : v31 0 = (ptr cb 0) := hd 0 (by decide)
  have e1 : v31 1 = (ptr cb 0) := hd 1 (by decide)
  have e2 : v31 2 = (ptr cb 3) := hd 2 (by decide)
  have e3 : v31 3 = (ptr cb 6) := hd 3 (by decide)
  have e4 : v31 4 = (sli db 0 (D * B * Q) (D * B * Q)) := hd 4 (by decide)
  have e5 : v31 5 = (eN i) := hd 5 (by decide)
  have f_v31_6 : Ps (Or1 cb (Or1 zb (Or1 db (Or1 gb (Old W.heap.size))))) (Seq kB onesW (v31 6)) w32 := hd 6 (by decide)
  clear hd iv_ lo_ hi_
  refine wpL.flat ([(Value.agg #[(eN D), (eN B), (eN Q)]), (Value.slice none 0 0), (ptr gb 0), undef, (Value.pointer none), (eN 0), (ptr cb 0), (eN i), undef, undef, (Value.agg #[(eN D), (eN B), (eN Q)]), vT, vF, (Value.agg #[(eN D), (eN B), (eN Q)]), (Value.agg #[(eN D), (eN B), (eN Q)]), (Value.agg #[(eN D), (eN B), (eN Q), (sli db 0 (D * B * Q) (D * B * Q))]), (Value.agg #[(eN D), (eN B), (eN Q)]), (Value.agg #[(eN D), (eN B), (eN Q), (sli zb 0 (D * B * Q) (D * B * Q))]), (Value.agg #[(eN D), (eN B), (eN Q), (eN D), (eN B), (eN Q), (sli db 0 (D * B * Q) (D * B * Q)), (eN D), (eN B), (eN Q), (sli zb 0 (D * B * Q) (D * B * Q)), (Value.slice none 0 0), (eN 0), (Value.slice none 0 0), vF, (eN 0), (eN 0)]), (ptr cb 0), (ptr cb 0), (ptr cb 0), (ptr cb 3), (ptr cb 6), (sli db 0 (D * B * Q) (D * B * Q)), (eN (D * B * Q)), (eN i), (Value.bool (decide (i < (D * B * Q)))), (eN i), (ptr cb 0), (ptr cb 0), (ptr cb 3), (ptr cb 6), (sli db 0 (D * B * Q) (D * B * Q)), (eN i), (v31 6), (z 36), (z 37)] ++ (us 44)) (by rw [e0, e1, e2, e3, e4, e5] <;> rfl) ?_
  clear e0 e1 e2 e3 e4 e5
  replace hF := hF.step o33 (or1_mono (or1_mono (or1_mono (or1_mono no_any))))
  obtain ⟨xr_a13, xr_a20, xr_a22, xr_a26⟩ := hR
  replace a13 : Arr 49 gb [(eN D), (eN B), (eN Q)] w32 := xr_a13
  replace a20 : Arr 22 db (vd.map eV) w32 := xr_a20
  replace a22 : Arr 23 zb (List.replicate (D * B * Q) (Value.slice none 0 0)) w32 := xr_a22
  replace a26 : Arr 81 cb [(eN D), (eN B), (eN Q), (eN D), (eN B), (eN Q), (sli db 0 (D * B * Q) (D * B * Q)), (eN D), (eN B), (eN Q), (sli zb 0 (D * B * Q) (D * B * Q)), (Value.slice none 0 0), (eN 0), (Value.slice none 0 0), vF, (eN 0), (eN 0)] w32 := xr_a26
  clear xr_a13 xr_a20 xr_a22 xr_a26
  replace oW := oW.tail o33 (tl_new g_oW_cb (tl_new g_oW_zb (tl_new g_oW_db (tl_new g_oW_gb tl_no))))
  replace o28 := o28.tail o33 (tl_in in1 (tl_in (in2 in1) (tl_in (in2 (in2 in1)) (tl_in (in2 (in2 (in2 in1))) tl_no))))
  refine wI (d_index1 (n := (D * B * Q)) (i := i) Try.underlying29 s_ti22 rfl (show _ = Value.int _ (i : Int) from rfl) oo) ?_
  refine wO (d_store (b := db) (i := i) (v := (v31 6)) s_ti22 rfl rfl (Seq.one f_v31_6) a20 (by rw [List.length_map, l_db]; omega) (m_put vd i (v31 6) eV)) ?_
  rintro _ w34 ⟨a35, o36⟩
  replace hF := hF.stepb o36 (in2 (in2 in1))
  replace f_v31_6 := f_v31_6.stepb o36 (in2 (in2 in1))
  replace a13 := a13.step o36 (fun e => absurd e n_gb_db)
  replace a22 := a22.step o36 (fun e => absurd e (Ne.symm n_db_zb))
  replace a26 := a26.step o36 (fun e => absurd e (Ne.symm n_db_cb))
  replace oW := oW.tailb o36 g_oW_db
  replace o28 := o28.tail o36 (fun k _ e => by have : k = db := e; rw [this]; exact (in2 (in2 in1)))
  replace l_db : (vd.set i (v31 6) : List Value).length = D * B * Q := (List.length_set ..).trans l_db
  refine wF ([(Value.agg #[(eN D), (eN B), (eN Q)]), (Value.slice none 0 0), (ptr gb 0), undef, (Value.pointer none), (eN 0), (ptr cb 0), (eN i), undef, undef, (Value.agg #[(eN D), (eN B), (eN Q)]), vT, vF, (Value.agg #[(eN D), (eN B), (eN Q)]), (Value.agg #[(eN D), (eN B), (eN Q)]), (Value.agg #[(eN D), (eN B), (eN Q), (sli db 0 (D * B * Q) (D * B * Q))]), (Value.agg #[(eN D), (eN B), (eN Q)]), (Value.agg #[(eN D), (eN B), (eN Q), (sli zb 0 (D * B * Q) (D * B * Q))]), (Value.agg #[(eN D), (eN B), (eN Q), (eN D), (eN B), (eN Q), (sli db 0 (D * B * Q) (D * B * Q)), (eN D), (eN B), (eN Q), (sli zb 0 (D * B * Q) (D * B * Q)), (Value.slice none 0 0), (eN 0), (Value.slice none 0 0), vF, (eN 0), (eN 0)]), (ptr cb 0), (ptr cb 0), (ptr cb 0), (ptr cb 3), (ptr cb 6), (sli db 0 (D * B * Q) (D * B * Q)), (eN (D * B * Q)), (eN i), (Value.bool (decide (i < (D * B * Q)))), (eN i), (ptr cb 0), (ptr cb 0), (ptr cb 3), (ptr cb 6), (sli db 0 (D * B * Q) (D * B * Q)), (eN i), (v31 6), (ptr db i), (z 37)] ++ (us 44)) ?_
  refine wD ?_
  refine inb_n (tN ?_)
  refine pL ?_
  refine wI (n_add (a := i) (b := 1) rfl rfl oo) ?_
  refine wI (d_move rfl) ?_
  refine wD (tN ?_)
  refine ⟨_, ⟨i + 1, vd.set i (v31 6)⟩, rfl, kr, ⟨?_, ?_, ?_, ?_, ?_, ?_, ?_, ?_⟩, ?_⟩
  ·
   (try dsimp only)
   all_goals (omega)
  ·
   (try dsimp only)
   all_goals (exact fam_next hF f_v31_6 (by rw [List.length_set] at l_db; omega))
  ·
   exact o28
  ·
   exact a13
  ·
   exact l_db
  ·
   exact a35
  ·
   exact a22
  ·
   exact a26
  ·
   (try dsimp only)
   all_goals (omega)
 refine wpIn_exit ?_
 refine then_x (then_x (inb_e ?_))
 refine tN (wQ (wQ ?_))
 obtain rfl : i = D * B * Q := by omega
 refine wp_eq (l' := ([(Value.agg #[(eN D), (eN B), (eN Q)]), (Value.slice none 0 0), (ptr gb 0), undef, (Value.pointer none), (eN 0), (ptr cb 0), (z 7), undef, undef, (Value.agg #[(eN D), (eN B), (eN Q)]), vT, vF, (Value.agg #[(eN D), (eN B), (eN Q)]), (Value.agg #[(eN D), (eN B), (eN Q)]), (Value.agg #[(eN D), (eN B), (eN Q), (sli db 0 (D * B * Q) (D * B * Q))]), (Value.agg #[(eN D), (eN B), (eN Q)]), (Value.agg #[(eN D), (eN B), (eN Q), (sli zb 0 (D * B * Q) (D * B * Q))]), (Value.agg #[(eN D), (eN B), (eN Q), (eN D), (eN B), (eN Q), (sli db 0 (D * B * Q) (D * B * Q)), (eN D), (eN B), (eN Q), (sli zb 0 (D * B * Q) (D * B * Q)), (Value.slice none 0 0), (eN 0), (Value.slice none 0 0), vF, (eN 0), (eN 0)]), (ptr cb 0), (ptr cb 0), (ptr cb 0), (ptr cb 3), (ptr cb 6), (sli db 0 (D * B * Q) (D * B * Q)), (eN (D * B * Q)), (eN (D * B * Q)), (Value.bool (decide ((D * B * Q) < (D * B * Q))))] ++ (zs z 28 10 ++ (us 44)))) rfl ?_
 refine pL ?_
 refine wI (d_fieldAddr (j := 0) Try.underlying49 rfl s_ti3 (by decide) rfl rfl) ?_
 refine wI (d_load (v := (eN D)) ⟨_, Try.underlying3, rfl⟩ rfl a13 rfl) ?_
 refine wI (d_move rfl) ?_
 refine wD (tN (wB ?_))
 have a37 : Ow 83 1 none (Value.slice none 0 0) ([] : List (Nat)).length (([] : List (Nat)).map (eK B)) w29 := Ow.nil _ _ _
 have nq_bk_gb : ∀ x, (none : Option Nat) = some x → ¬ x = gb := fun x e => by cases e
 have nq_bk_db : ∀ x, (none : Option Nat) = some x → ¬ x = db := fun x e => by cases e
 have nq_bk_zb : ∀ x, (none : Option Nat) = some x → ¬ x = zb := fun x e => by cases e
 have nq_bk_cb : ∀ x, (none : Option Nat) = some x → ¬ x = cb := fun x e => by cases e
 have q_oW_bk : Fr none none W.heap.size := Fr.none
 have q_o28_bk : Fr none none w24.heap.size := Fr.none
 replace hF := hF.qnone
 have h_lt_gb := a13.lt
 have h_lt_db := a20.lt
 have h_lt_zb := a22.lt
 have h_lt_cb := a26.lt
 have h_lts_bk := a37.lts
 refine loop2 (fun (s_ : (Nat) × (List Nat) × (Option Nat) × (Value)) => match s_ with | ⟨j, bk, bo_bk, u_bk⟩ => fun (z : Nat → Value) => (([(Value.agg #[(eN D), (eN B), (eN Q)]), (Value.slice none 0 0), (ptr gb 0), undef, (Value.pointer none), (eN 0), (ptr cb 0), (z 7), undef, undef, (Value.agg #[(eN D), (eN B), (eN Q)]), vT, vF, (Value.agg #[(eN D), (eN B), (eN Q)]), (Value.agg #[(eN D), (eN B), (eN Q)]), (Value.agg #[(eN D), (eN B), (eN Q), (sli db 0 (D * B * Q) (D * B * Q))]), (Value.agg #[(eN D), (eN B), (eN Q)]), (Value.agg #[(eN D), (eN B), (eN Q), (sli zb 0 (D * B * Q) (D * B * Q))]), (Value.agg #[(eN D), (eN B), (eN Q), (eN D), (eN B), (eN Q), (sli db 0 (D * B * Q) (D * B * Q)), (eN D), (eN B), (eN Q), (sli zb 0 (D * B * Q) (D * B * Q)), (Value.slice none 0 0), (eN 0), (Value.slice none 0 0), vF, (eN 0), (eN 0)]), (ptr cb 0), (ptr cb 0), (ptr cb 0), (ptr cb 3), (ptr cb 6), (sli db 0 (D * B * Q) (D * B * Q)), (eN (D * B * Q)), (eN (D * B * Q)), (Value.bool (decide ((D * B * Q) < (D * B * Q))))] ++ (zs z 28 10 ++ [(ptr gb 0), (eN D), (eN j)] ++ (zs z 41 14 ++ (us 27)))) : List Value)) (fun (s_ : (Nat) × (List Nat) × (Option Nat) × (Value)) => match s_ with | ⟨j, bk, bo_bk, u_bk⟩ => fun (w_ : World) => (j ≤ D) ∧ (bk.length = j) ∧ (bk.Nodup) ∧ (∀ x ∈ bk, x ≠ cb ∧ x ≠ db ∧ x ≠ zb ∧ W.heap.size ≤ x ∧ x < w_.heap.size) ∧ (∀ x, bo_bk = some x → x ∉ bk) ∧ (Ps (Orq bo_bk (Or1 cb (Or1 zb (Or1 db (Or1 gb (Old W.heap.size)))))) (fun w => ∀ q, q < j → Arr 87 (bk.getD q 0) (stC B (fun _ => St0)) w) w_) ∧ (Ps (Orq bo_bk (Or1 cb (Or1 zb (Or1 db (Or1 gb (fun k => k ∈ bk ∨ Old W.heap.size k)))))) (Fam kB (D * B * Q) (fun _ => onesW) vd) w_) ∧ Only (Orq none (Or1 cb (Or1 zb (Or1 db (Or1 gb No))))) w29 w_ ∧ Arr 49 gb [(eN D), (eN B), (eN Q)] w_ ∧ Arr 22 db (vd.map eV) w_ ∧ Arr 23 zb (List.replicate (D * B * Q) (Value.slice none 0 0)) w_ ∧ Arr 81 cb [(eN D), (eN B), (eN Q), (eN D), (eN B), (eN Q), (sli db 0 (D * B * Q) (D * B * Q)), (eN D), (eN B), (eN Q), (sli zb 0 (D * B * Q) (D * B * Q)), u_bk, (eN 0), (Value.slice none 0 0), vF, (eN 0), (eN 0)] w_ ∧ Ow 83 1 bo_bk u_bk (bk).length ((bk).map (eK B)) w_ ∧ Fr bo_bk none w29.heap.size) (fun (s_ : (Nat) × (List Nat) × (Option Nat) × (Value)) => match s_ with | ⟨j, bk, bo_bk, u_bk⟩ => D - j) ⟨0, [], none, (Value.slice none 0 0)⟩ kr ?_ ?_
 ·
  refine ⟨?_, ?_, ?_, ?_, ?_, ?_, ?_, ?_, ?_, ?_, ?_, ?_, ?_, ?_⟩
  ·
   exact Nat.zero_le _
  ·
   exact rfl
  ·
   exact List.nodup_nil
  ·
   exact fun x hx => by cases hx
  ·
   exact fun x hx => by cases hx
  ·
   exact fun w' _ q hq => absurd hq (Nat.not_lt_zero q)
  ·
   (try dsimp only)
   all_goals (exact hF.less (by intro k _ h; simp only [Or1, Orq] at h ⊢; grind))
  ·
   exact Only.refl _ _
  ·
   exact a13
  ·
   exact a20
  ·
   exact a22
  ·
   exact a26
  ·
   exact a37
  ·
   exact Fr.same
 rintro ⟨j, bk, bo_bk, u_bk⟩ z w39 ⟨hi2, hl, hn, hb, hbo, hK, hG, o38, a13, a20, a22, a26, a37, qq_bk⟩
 (try dsimp only)
 have tq_oW := oW.size
 replace oW := oW.tail o38 (tl_q q_oW_bk (fun _ e => by cases e) (tl_new g_oW_cb (tl_new g_oW_zb (tl_new g_oW_db (tl_new g_oW_gb tl_no)))))
 replace q_oW_bk := qtr qq_bk q_oW_bk tq_oW
 have tq_o28 := o28.size
 replace o28 := o28.tail o38 (tl_q q_o28_bk (fun _ e => by cases e) (tl_in in1 (tl_in (in2 in1) (tl_in (in2 (in2 in1)) (tl_in (in2 (in2 (in2 in1))) tl_no)))))
 replace q_o28_bk := qtr qq_bk q_o28_bk tq_o28
 replace nq_bk_gb := nqs nq_bk_gb qq_bk h_lt_gb
 replace nq_bk_db := nqs nq_bk_db qq_bk h_lt_db
 replace nq_bk_zb := nqs nq_bk_zb qq_bk h_lt_zb
 replace nq_bk_cb := nqs nq_bk_cb qq_bk h_lt_cb
 have q_o38_bk := qq_bk
 have oH : Only (Orq bo_bk (Or1 cb (Or1 zb (Or1 db (Or1 gb No))))) w39 w39 := Only.refl _ _
 have q_oH_bk : Fr bo_bk bo_bk w39.heap.size := Fr.same
 refine wQ (pL ?_)
 refine wI (n_lss (a := j) (b := D) rfl rfl rfl) ?_
 refine wD (tN (wQ ?_))
 refine cond_if rfl (fun c40 => ?_) (fun c40 => ?_)
 ·
  refine wK (tN (wQ (wB ?_)))
  refine wp_eq (l' := ([(Value.agg #[(eN D), (eN B), (eN Q)]), (Value.slice none 0 0), (ptr gb 0), undef, (Value.pointer none), (eN 0), (ptr cb 0), (z 7), undef, undef, (Value.agg #[(eN D), (eN B), (eN Q)]), vT, vF, (Value.agg #[(eN D), (eN B), (eN Q)]), (Value.agg #[(eN D), (eN B), (eN Q)]), (Value.agg #[(eN D), (eN B), (eN Q), (sli db 0 (D * B * Q) (D * B * Q))]), (Value.agg #[(eN D), (eN B), (eN Q)]), (Value.agg #[(eN D), (eN B), (eN Q), (sli zb 0 (D * B * Q) (D * B * Q))]), (Value.agg #[(eN D), (eN B), (eN Q), (eN D), (eN B), (eN Q), (sli db 0 (D * B * Q) (D * B * Q)), (eN D), (eN B), (eN Q), (sli zb 0 (D * B * Q) (D * B * Q)), (Value.slice none 0 0), (eN 0), (Value.slice none 0 0), vF, (eN 0), (eN 0)]), (ptr cb 0), (ptr cb 0), (ptr cb 0), (ptr cb 3), (ptr cb 6), (sli db 0 (D * B * Q) (D * B * Q)), (eN (D * B * Q)), (eN (D * B * Q)), (Value.bool (decide ((D * B * Q) < (D * B * Q))))] ++ (zs z 28 10 ++ [(ptr gb 0), (eN D), (eN j), (Value.bool (decide (j < D)))] ++ (zs z 42 13 ++ (us 27))))) rfl ?_
  have hX0_ : ∀ k, (Orq bo_bk (Or1 cb (Or1 zb (Or1 db (Or1 gb (Old W.heap.size)))))) k → k < w39.heap.size := (lt_orq a37.lts (lt_or1 a26.lt (lt_or1 a22.lt (lt_or1 a20.lt (lt_or1 a13.lt (fun k t => Nat.lt_of_lt_of_le t oW.size))))))
  have hO0_ : ∀ k, (Orq bo_bk (Or1 cb (Or1 zb (Or1 db (Or1 gb No))))) k → k < w39.heap.size := fun k h => hX0_ k ((orq_mono (or1_mono (or1_mono (or1_mono (or1_mono no_any))))) k h)
  refine drawnF (O := (Orq bo_bk (Or1 cb (Or1 zb (Or1 db (Or1 gb No)))))) (n := 13) [0] [9, 10, 11, 12] (fun i_ => nth [(ptr cb 0)] i_) 9 [0, 0, 2, 6, 14, 0, 32, 96, 224, 510, 1023, 2047, 4095] [(0, 42), (1, 43), (2, 44), (3, 45), (4, 46), (5, 47), (6, 48), (7, 49), (8, 50), (9, 51), (10, 52), (11, 53)] [(0, 42), (1, 43), (2, 44), (3, 45), (4, 46), (5, 47), (6, 48), (7, 49), (8, 50)] [0, 1, 2, 3, 4, 5, 6, 7, 8] [] (fun i_ => ([RF.is (Orq bo_bk (Or1 cb (Or1 zb (Or1 db (Or1 gb No))))) (ptr cb 0), RF.is (Orq bo_bk (Or1 cb (Or1 zb (Or1 db (Or1 gb No))))) (ptr cb 0), RF.is (Orq bo_bk (Or1 cb (Or1 zb (Or1 db (Or1 gb No))))) (ptr cb 0), RF.is (Orq bo_bk (Or1 cb (Or1 zb (Or1 db (Or1 gb No))))) (ptr cb 11), RF.is (Orq bo_bk (Or1 cb (Or1 zb (Or1 db (Or1 gb No))))) u_bk, RF.is (Orq bo_bk (Or1 cb (Or1 zb (Or1 db (Or1 gb No))))) (ptr gb 1), RF.is (Orq bo_bk (Or1 cb (Or1 zb (Or1 db (Or1 gb No))))) (eN B), RF.mk_ (Orq bo_bk (Or1 cb (Or1 zb (Or1 db (Or1 gb No))))) (fun b_ => (sli b_ 0 B B)) 87 (stC B (fun _ => St0)) w39.heap.size hO0_, RF.mkv_ (Orq bo_bk (Or1 cb (Or1 zb (Or1 db (Or1 gb No))))) (fun b_ => (sli b_ 0 1 1)) 83 (fun v41 => [(v41 7)]) w39.heap.size hO0_] : List (RF (Orq bo_bk (Or1 cb (Or1 zb (Or1 db (Or1 gb No))))))).getD i_ (RF.any (Orq bo_bk (Or1 cb (Or1 zb (Or1 db (Or1 gb No))))))) (fun _ w_ => Arr 49 gb [(eN D), (eN B), (eN Q)] w_ ∧ Arr 22 db (vd.map eV) w_ ∧ Arr 23 zb (List.replicate (D * B * Q) (Value.slice none 0 0)) w_ ∧ Arr 81 cb [(eN D), (eN B), (eN Q), (eN D), (eN B), (eN Q), (sli db 0 (D * B * Q) (D * B * Q)), (eN D), (eN B), (eN Q), (sli zb 0 (D * B * Q) (D * B * Q)), u_bk, (eN 0), (Value.slice none 0 0), vF, (eN 0), (eN 0)] w_ ∧ Ow 83 1 bo_bk u_bk (bk).length ((bk).map (eK B)) w_) (fun v41 => ([(Value.agg #[(eN D), (eN B), (eN Q)]), (Value.slice none 0 0), (ptr gb 0), undef, (Value.pointer none), (eN 0), (ptr cb 0), (z 7), undef, undef, (Value.agg #[(eN D), (eN B), (eN Q)]), vT, vF, (Value.agg #[(eN D), (eN B), (eN Q)]), (Value.agg #[(eN D), (eN B), (eN Q)]), (Value.agg #[(eN D), (eN B), (eN Q), (sli db 0 (D * B * Q) (D * B * Q))]), (Value.agg #[(eN D), (eN B), (eN Q)]), (Value.agg #[(eN D), (eN B), (eN Q), (sli zb 0 (D * B * Q) (D * B * Q))]), (Value.agg #[(eN D), (eN B), (eN Q), (eN D), (eN B), (eN Q), (sli db 0 (D * B * Q) (D * B * Q)), (eN D), (eN B), (eN Q), (sli zb 0 (D * B * Q) (D * B * Q)), (Value.slice none 0 0), (eN 0), (Value.slice none 0 0), vF, (eN 0), (eN 0)]), (ptr cb 0), (ptr cb 0), (ptr cb 0), (ptr cb 3), (ptr cb 6), (sli db 0 (D * B * Q) (D * B * Q)), (eN (D * B * Q)), (eN (D * B * Q)), (Value.bool (decide ((D * B * Q) < (D * B * Q))))] ++ (zs z 28 10 ++ [(ptr gb 0), (eN D), (eN j), (Value.bool (decide (j < D))), (v41 0), (v41 1), (v41 2), (v41 3), (v41 4), (v41 5), (v41 6), (v41 7), (v41 8), (v41 9), (v41 10), (v41 11), (z 54)] ++ (us 27)))) (fun v41 => ([(Value.agg #[(eN D), (eN B), (eN Q)]), (Value.slice none 0 0), (ptr gb 0), undef, (Value.pointer none), (eN 0), (ptr cb 0), (z 7), undef, undef, (Value.agg #[(eN D), (eN B), (eN Q)]), vT, vF, (Value.agg #[(eN D), (eN B), (eN Q)]), (Value.agg #[(eN D), (eN B), (eN Q)]), (Value.agg #[(eN D), (eN B), (eN Q), (sli db 0 (D * B * Q) (D * B * Q))]), (Value.agg #[(eN D), (eN B), (eN Q)]), (Value.agg #[(eN D), (eN B), (eN Q), (sli zb 0 (D * B * Q) (D * B * Q))]), (Value.agg #[(eN D), (eN B), (eN Q), (eN D), (eN B), (eN Q), (sli db 0 (D * B * Q) (D * B * Q)), (eN D), (eN B), (eN Q), (sli zb 0 (D * B * Q) (D * B * Q)), (Value.slice none 0 0), (eN 0), (Value.slice none 0 0), vF, (eN 0), (eN 0)]), (ptr cb 0), (ptr cb 0), (ptr cb 0), (ptr cb 3), (ptr cb 6), (sli db 0 (D * B * Q) (D * B * Q)), (eN (D * B * Q)), (eN (D * B * Q)), (Value.bool (decide ((D * B * Q) < (D * B * Q))))] ++ (zs z 28 10 ++ [(ptr gb 0), (eN D), (eN j), (Value.bool (decide (j < D))), (v41 0), (v41 1), (v41 2), (v41 3), (v41 4), (v41 5), (v41 6), (v41 7), (v41 8), (z 51), (z 52), (z 53), (z 54)] ++ (us 27)))) s_mx kr rfl (by decide) (by rfl) kr kr kr kr (fun l2_ w_ hl_ hn_ => fl_cons (fl_move (t := 6) hn_ kr (by rfl) (by rfl)) (fl_nil)) (fl_cons (by rfl) (fl_nil)) kr kr (by rfl) (fun v_ => by kernel_rfl) (fun v_ => by kernel_rfl) (fun _ => fun w_ w2_ h ho => by obtain ⟨r_a13, r_a20, r_a22, r_a26, r_a37⟩ := h; exact ⟨r_a13.step0 ho, r_a20.step0 ho, r_a22.step0 ho, r_a26.step0 ho, r_a37.step0 ho⟩) ⟨a13, a20, a22, a26, a37⟩ ?_ ?_ ?_
  ·
   refine ls_cons ?_ ?_
   ·
    intro v41 lo hi w_ k_ hO hd _ _ hk_ _ hR hold
    obtain ⟨r_a13, r_a20, r_a22, r_a26, r_a37⟩ := hR
    clear hd hold
    refine ⟨_, rfl, gd rfl ?_⟩
    exact Does.is (d_move rfl)
   refine ls_cons ?_ ?_
   ·
    intro v41 lo hi w_ k_ hO hd _ _ hk_ _ hR hold
    obtain ⟨r_a13, r_a20, r_a22, r_a26, r_a37⟩ := hR
    clear hd hold
    refine ⟨_, rfl, gd rfl ?_⟩
    exact Does.is (d_move rfl)
   refine ls_cons ?_ ?_
   ·
    intro v41 lo hi w_ k_ hO hd _ _ hk_ _ hR hold
    obtain ⟨r_a13, r_a20, r_a22, r_a26, r_a37⟩ := hR
    have e1 : v41 1 = (ptr cb 0) := hd 1 kr
    clear hd hold
    refine ⟨_, rfl, gd rfl ?_⟩
    exact Does.is (d_nilCheck (b := cb) (o := 0) e1)
   refine ls_cons ?_ ?_
   ·
    intro v41 lo hi w_ k_ hO hd _ _ hk_ _ hR hold
    obtain ⟨r_a13, r_a20, r_a22, r_a26, r_a37⟩ := hR
    have e2 : v41 2 = (ptr cb 0) := hd 2 kr
    clear hd hold
    refine ⟨_, rfl, gd rfl ?_⟩
    exact Does.is (d_fieldAddr (j := 11) Try.underlying81 rfl s_ti79 (by decide) e2 rfl)
   refine ls_cons ?_ ?_
   ·
    intro v41 lo hi w_ k_ hO hd _ _ hk_ _ hR hold
    obtain ⟨r_a13, r_a20, r_a22, r_a26, r_a37⟩ := hR
    have e3 : v41 3 = (ptr cb 11) := hd 3 kr
    clear hd hold
    refine ⟨_, rfl, gd rfl ?_⟩
    exact Does.is (d_load (v := u_bk) ⟨_, Try.underlying79, rfl⟩ e3 r_a26 rfl)
   refine ls_cons ?_ ?_
   ·
    intro v41 lo hi w_ k_ hO hd _ _ hk_ _ hR hold
    obtain ⟨r_a13, r_a20, r_a22, r_a26, r_a37⟩ := hR
    clear hd hold
    refine ⟨_, rfl, gd rfl ?_⟩
    exact Does.is (d_fieldAddr (j := 1) Try.underlying49 rfl s_ti3 (by decide) rfl rfl)
   refine ls_cons ?_ ?_
   ·
    intro v41 lo hi w_ k_ hO hd _ _ hk_ _ hR hold
    obtain ⟨r_a13, r_a20, r_a22, r_a26, r_a37⟩ := hR
    have e5 : v41 5 = (ptr gb 1) := hd 5 kr
    clear hd hold
    refine ⟨_, rfl, gd rfl ?_⟩
    exact Does.is (d_load (v := (eN B)) ⟨_, Try.underlying3, rfl⟩ e5 r_a13 rfl)
   refine ls_cons ?_ ?_
   ·
    intro v41 lo hi w_ k_ hO hd _ _ hk_ _ hR hold
    obtain ⟨r_a13, r_a20, r_a22, r_a26, r_a37⟩ := hR
    have e6 : v41 6 = (eN B) := hd 6 kr
    clear hd hold
    refine ⟨_, rfl, gd rfl ?_⟩
    refine Does.mono (d_make (n := B) (cs := (stC B (fun _ => St0))) Try.underlying83 s_ti87 e6 e6 oo oo (made_st B)) (fun u w' h => by obtain ⟨b_, rfl, hb_, hA_, hO_⟩ := h; exact ⟨⟨b_, rfl, hA_, Nat.le_trans hO.size hb_⟩, hO_⟩)
   refine ls_cons ?_ ?_
   ·
    intro v41 lo hi w_ k_ hO hd _ _ hk_ _ hR hold
    obtain ⟨r_a13, r_a20, r_a22, r_a26, r_a37⟩ := hR
    obtain ⟨mb7, me7, ma7, mf7⟩ : ∃ b_, v41 7 = (fun b_ => (sli b_ 0 B B)) b_ ∧ Arr 87 b_ (stC B (fun _ => St0)) w_ ∧ w39.heap.size ≤ b_ := hd 7 kr
    clear hd hold
    refine ⟨_, rfl, gd rfl ?_⟩
    refine Does.mono (d_buildL (cs := [(v41 7)]) Try.underlying79 s_ti83 rfl (nb rfl) (parts_cons (vs := [(v41 7)]) (cells_of (v := (v41 7)) rfl (by rw [me7]; rfl)) parts_nil) rfl) (fun u w' h => by obtain ⟨b_, rfl, hb_, hA_, hO_⟩ := h; exact ⟨⟨b_, rfl, hA_, Nat.le_trans hO.size hb_⟩, hO_⟩)
   exact ls_nil
  ·
   exact ms_nil
  intro v41 lo_ hi_ w42 o43 hd hR
  have e0 : v41 0 = (ptr cb 0) := hd 0 (by decide)
  have e1 : v41 1 = (ptr cb 0) := hd 1 (by decide)
  have e2 : v41 2 = (ptr cb 0) := hd 2 (by decide)
  have e3 : v41 3 = (ptr cb 11) := hd 3 (by decide)
  have e4 : v41 4 = u_bk := hd 4 (by decide)
  have e5 : v41 5 = (ptr gb 1) := hd 5 (by decide)
  have e6 : v41 6 = (eN B) := hd 6 (by decide)
  obtain ⟨b49, e7, a44, g45⟩ : ∃ b_, v41 7 = (fun b_ => (sli b_ 0 B B)) b_ ∧ Arr 87 b_ (stC B (fun _ => St0)) w42 ∧ w39.heap.size ≤ b_ := hd 7 (by decide)
  dsimp only at e7
  have n_gb_b49 : gb ≠ b49 := a13.ne g45
  have n_db_b49 : db ≠ b49 := a20.ne g45
  have n_zb_b49 : zb ≠ b49 := a22.ne g45
  have n_cb_b49 : cb ≠ b49 := a26.ne g45
  have nq_bk_b49 : ∀ x, bo_bk = some x → ¬ x = b49 := fun x hx e => by have := a37.lts x hx; omega
  have g_oW_b49 : W.heap.size ≤ b49 := Nat.le_trans oW.size g45
  have g_o28_b49 : w24.heap.size ≤ b49 := Nat.le_trans o28.size g45
  have g_o38_b49 : w29.heap.size ≤ b49 := Nat.le_trans o38.size g45
  have g_oH_b49 : w39.heap.size ≤ b49 := Nat.le_trans oH.size g45
  obtain ⟨b50, e8, a46, g47⟩ : ∃ b_, v41 8 = (fun b_ => (sli b_ 0 1 1)) b_ ∧ Arr 83 b_ [(v41 7)] w42 ∧ w39.heap.size ≤ b_ := hd 8 (by decide)
  dsimp only at e8
  have n_gb_b50 : gb ≠ b50 := a13.ne g47
  have n_db_b50 : db ≠ b50 := a20.ne g47
  have n_zb_b50 : zb ≠ b50 := a22.ne g47
  have n_cb_b50 : cb ≠ b50 := a26.ne g47
  have nq_bk_b50 : ∀ x, bo_bk = some x → ¬ x = b50 := fun x hx e => by have := a37.lts x hx; omega
  have g_oW_b50 : W.heap.size ≤ b50 := Nat.le_trans oW.size g47
  have g_o28_b50 : w24.heap.size ≤ b50 := Nat.le_trans o28.size g47
  have g_o38_b50 : w29.heap.size ≤ b50 := Nat.le_trans o38.size g47
  have g_oH_b50 : w39.heap.size ≤ b50 := Nat.le_trans oH.size g47
  have n_b49_b50 : b49 ≠ b50 := arr_ne a44 a46 (by decide)
  rw [e7] at a46
  replace a46 : Arr 83 b50 (([b49] : List Nat).map (eK B)) w42 := a46
  clear hd lo_ hi_
  refine wS.flat ([(Value.agg #[(eN D), (eN B), (eN Q)]), (Value.slice none 0 0), (ptr gb 0), undef, (Value.pointer none), (eN 0), (ptr cb 0), (z 7), undef, undef, (Value.agg #[(eN D), (eN B), (eN Q)]), vT, vF, (Value.agg #[(eN D), (eN B), (eN Q)]), (Value.agg #[(eN D), (eN B), (eN Q)]), (Value.agg #[(eN D), (eN B), (eN Q), (sli db 0 (D * B * Q) (D * B * Q))]), (Value.agg #[(eN D), (eN B), (eN Q)]), (Value.agg #[(eN D), (eN B), (eN Q), (sli zb 0 (D * B * Q) (D * B * Q))]), (Value.agg #[(eN D), (eN B), (eN Q), (eN D), (eN B), (eN Q), (sli db 0 (D * B * Q) (D * B * Q)), (eN D), (eN B), (eN Q), (sli zb 0 (D * B * Q) (D * B * Q)), (Value.slice none 0 0), (eN 0), (Value.slice none 0 0), vF, (eN 0), (eN 0)]), (ptr cb 0), (ptr cb 0), (ptr cb 0), (ptr cb 3), (ptr cb 6), (sli db 0 (D * B * Q) (D * B * Q)), (eN (D * B * Q)), (eN (D * B * Q)), (Value.bool (decide ((D * B * Q) < (D * B * Q))))] ++ (zs z 28 10 ++ [(ptr gb 0), (eN D), (eN j), (Value.bool (decide (j < D))), (ptr cb 0), (ptr cb 0), (ptr cb 0), (ptr cb 11), u_bk, (ptr gb 1), (eN B), (sli b49 0 B B), (sli b50 0 1 1), (z 51), (z 52), (z 53), (z 54)] ++ (us 27))) (by rw [e0, e1, e2, e3, e4, e5, e6, e7, e8] <;> rfl) ?_
  clear e0 e1 e2 e3 e4 e5 e6 e7 e8
  replace hG := ((hG.less (Y := (Or1 b49 (Orq bo_bk (Or1 cb (Or1 zb (Or1 db (Or1 gb (fun k => k ∈ bk ∨ Old W.heap.size k)))))))) (xx_new g45 xx_id)).less (Y := (Or1 b50 (Or1 b49 (Orq bo_bk (Or1 cb (Or1 zb (Or1 db (Or1 gb (fun k => k ∈ bk ∨ Old W.heap.size k))))))))) (xx_new g47 xx_id)).step o43 (or1_skip (or1_skip (orq_mono (or1_mono (or1_mono (or1_mono (or1_mono no_any)))))))
  replace hK := ((hK.less (Y := (Or1 b49 (Orq bo_bk (Or1 cb (Or1 zb (Or1 db (Or1 gb (Old W.heap.size)))))))) (xx_new g45 xx_id)).less (Y := (Or1 b50 (Or1 b49 (Orq bo_bk (Or1 cb (Or1 zb (Or1 db (Or1 gb (Old W.heap.size))))))))) (xx_new g47 xx_id)).step o43 (or1_skip (or1_skip (orq_mono (or1_mono (or1_mono (or1_mono (or1_mono no_any)))))))
  obtain ⟨xr_a13, xr_a20, xr_a22, xr_a26, xr_a37⟩ := hR
  replace a13 : Arr 49 gb [(eN D), (eN B), (eN Q)] w42 := xr_a13
  replace a20 : Arr 22 db (vd.map eV) w42 := xr_a20
  replace a22 : Arr 23 zb (List.replicate (D * B * Q) (Value.slice none 0 0)) w42 := xr_a22
  replace a26 : Arr 81 cb [(eN D), (eN B), (eN Q), (eN D), (eN B), (eN Q), (sli db 0 (D * B * Q) (D * B * Q)), (eN D), (eN B), (eN Q), (sli zb 0 (D * B * Q) (D * B * Q)), u_bk, (eN 0), (Value.slice none 0 0), vF, (eN 0), (eN 0)] w42 := xr_a26
  replace a37 : Ow 83 1 bo_bk u_bk (bk).length ((bk).map (eK B)) w42 := xr_a37
  clear xr_a13 xr_a20 xr_a22 xr_a26 xr_a37
  replace oW := oW.tail o43 (tl_q q_oW_bk (fun _ e => by cases e) (tl_new g_oW_cb (tl_new g_oW_zb (tl_new g_oW_db (tl_new g_oW_gb tl_no)))))
  replace o28 := o28.tail o43 (tl_q q_o28_bk (fun _ e => by cases e) (tl_in in1 (tl_in (in2 in1) (tl_in (in2 (in2 in1)) (tl_in (in2 (in2 (in2 in1))) tl_no)))))
  replace o38 := o38.tail o43 (tl_q q_o38_bk (fun k e => (.inl e)) (tl_in (inq in1) (tl_in (inq (in2 in1)) (tl_in (inq (in2 (in2 in1))) (tl_in (inq (in2 (in2 (in2 in1)))) tl_no)))))
  replace oH := oH.tail o43 (tl_q q_oH_bk (fun k e => (.inl e)) (tl_in (inq in1) (tl_in (inq (in2 in1)) (tl_in (inq (in2 (in2 in1))) (tl_in (inq (in2 (in2 (in2 in1)))) tl_no)))))
  have l_b50 : (([b49] : List Nat) : List Nat).length = 1 := by simp
  refine wS.op rfl rfl (d_append Try.underlying79 Try.underlying79 s_ti83 rfl rfl rfl a37 (SrcV.of_seq (arr_seq a46 l_b50 (Nat.le_refl _)) (fun _ => rfl)) (by simp; omega) (by simp; omega) rfl) ?_
  rintro u48 w49 ⟨bo50, a51, o52, q53⟩
  replace a51 : Ow 83 1 bo50 u48 (bk ++ ([b49] : List Nat)).length ((bk ++ ([b49] : List Nat)).map (eK B)) w49 := by rw [List.length_append, List.map_append]; exact a51
  replace hG := hG.gr o52 (fun k e => (.inr (.inr (.inl e)))) (xx_or1 (xx_or1 (xx_re (Fr.of_or q53) (xx_or1 (xx_or1 (xx_or1 (xx_or1 xx_id)))))))
  replace hK := hK.gr o52 (fun k e => (.inr (.inr (.inl e)))) (xx_or1 (xx_or1 (xx_re (Fr.of_or q53) (xx_or1 (xx_or1 (xx_or1 (xx_or1 xx_id)))))))
  have nq2 := nqs nq_bk_gb (Fr.of_or q53) a13.lt
  replace a13 := a13.step o52 (fun e => nq_bk_gb _ e rfl)
  replace nq_bk_gb := nq2
  clear nq2
  have nq2 := nqs nq_bk_db (Fr.of_or q53) a20.lt
  replace a20 := a20.step o52 (fun e => nq_bk_db _ e rfl)
  replace nq_bk_db := nq2
  clear nq2
  have nq2 := nqs nq_bk_zb (Fr.of_or q53) a22.lt
  replace a22 := a22.step o52 (fun e => nq_bk_zb _ e rfl)
  replace nq_bk_zb := nq2
  clear nq2
  have nq2 := nqs nq_bk_cb (Fr.of_or q53) a26.lt
  replace a26 := a26.step o52 (fun e => nq_bk_cb _ e rfl)
  replace nq_bk_cb := nq2
  clear nq2
  have nq2 := nqs nq_bk_b49 (Fr.of_or q53) a44.lt
  replace a44 := a44.step o52 (fun e => nq_bk_b49 _ e rfl)
  replace nq_bk_b49 := nq2
  clear nq2
  have nq2 := nqs nq_bk_b50 (Fr.of_or q53) a46.lt
  replace a46 := a46.step o52 (fun e => nq_bk_b50 _ e rfl)
  replace nq_bk_b50 := nq2
  clear nq2
  have tq := oW.size
  replace oW := oW.tailr o52 q_oW_bk (fun _ e => by cases e)
  replace q_oW_bk := qtr (Fr.of_or q53) q_oW_bk tq
  clear tq
  have tq := o28.size
  replace o28 := o28.tailr o52 q_o28_bk (fun _ e => by cases e)
  replace q_o28_bk := qtr (Fr.of_or q53) q_o28_bk tq
  clear tq
  have tq := o38.size
  replace o38 := o38.tailr o52 q_o38_bk (fun k e => (.inl e))
  replace q_o38_bk := qtr (Fr.of_or q53) q_o38_bk tq
  clear tq
  have tq := oH.size
  replace oH := oH.tailr o52 q_oH_bk (fun k e => (.inl e))
  replace q_oH_bk := qtr (Fr.of_or q53) q_oH_bk tq
  clear tq
  refine wS.is rfl rfl (d_nilCheck (b := cb) (o := 0) rfl) ?_
  refine wS.is rfl rfl (d_fieldAddr (j := 11) Try.underlying81 rfl s_ti79 (by decide) rfl rfl) ?_
  refine wS.op rfl rfl (d_store s_ti79 rfl rfl (Ow.one a51) a26 (nb rfl) rfl) ?_
  rintro _ w54 ⟨a55, o56⟩
  replace hG := hG.stepb o56 (in2 (in2 (inq in1)))
  replace hK := hK.stepb o56 (in2 (in2 (inq in1)))
  replace a13 := a13.step o56 (fun e => absurd e n_gb_cb)
  replace a20 := a20.step o56 (fun e => absurd e n_db_cb)
  replace a22 := a22.step o56 (fun e => absurd e n_zb_cb)
  replace a44 := a44.step o56 (fun e => absurd e (Ne.symm n_cb_b49))
  replace a46 := a46.step o56 (fun e => absurd e (Ne.symm n_cb_b50))
  replace a51 := a51.step o56 (fun x hx e => nq_bk_cb x hx e)
  replace oW := oW.tailb o56 g_oW_cb
  replace o28 := o28.tail o56 (fun k _ e => by have : k = cb := e; rw [this]; exact in1)
  replace o38 := o38.tail o56 (fun k _ e => by have : k = cb := e; rw [this]; exact (inq in1))
  replace oH := oH.tail o56 (fun k _ e => by have : k = cb := e; rw [this]; exact (inq in1))
  refine wS.flat ([(Value.agg #[(eN D), (eN B), (eN Q)]), (Value.slice none 0 0), (ptr gb 0), undef, (Value.pointer none), (eN 0), (ptr cb 0), (z 7), undef, undef, (Value.agg #[(eN D), (eN B), (eN Q)]), vT, vF, (Value.agg #[(eN D), (eN B), (eN Q)]), (Value.agg #[(eN D), (eN B), (eN Q)]), (Value.agg #[(eN D), (eN B), (eN Q), (sli db 0 (D * B * Q) (D * B * Q))]), (Value.agg #[(eN D), (eN B), (eN Q)]), (Value.agg #[(eN D), (eN B), (eN Q), (sli zb 0 (D * B * Q) (D * B * Q))]), (Value.agg #[(eN D), (eN B), (eN Q), (eN D), (eN B), (eN Q), (sli db 0 (D * B * Q) (D * B * Q)), (eN D), (eN B), (eN Q), (sli zb 0 (D * B * Q) (D * B * Q)), (Value.slice none 0 0), (eN 0), (Value.slice none 0 0), vF, (eN 0), (eN 0)]), (ptr cb 0), (ptr cb 0), (ptr cb 0), (ptr cb 3), (ptr cb 6), (sli db 0 (D * B * Q) (D * B * Q)), (eN (D * B * Q)), (eN (D * B * Q)), (Value.bool (decide ((D * B * Q) < (D * B * Q))))] ++ (zs z 28 10 ++ [(ptr gb 0), (eN D), (eN j), (Value.bool (decide (j < D))), (ptr cb 0), (ptr cb 0), (ptr cb 0), (ptr cb 11), u_bk, (ptr gb 1), (eN B), (sli b49 0 B B), (sli b50 0 1 1), u48, (ptr cb 0), (ptr cb 11), (z 54)] ++ (us 27))) kr ?_
  refine wS.done ?_
  refine inb_n (tN ?_)
  refine pL ?_
  refine wI (n_add (a := j) (b := 1) rfl rfl oo) ?_
  refine wI (d_move rfl) ?_
  refine wD (tN ?_)
  have szH := oH.size
  have gH := g_oH_b49
  refine ⟨_, ⟨j + 1, bk ++ [b49], bo50, u48⟩, rfl, kr, ⟨?_, ?_, ?_, ?_, ?_, ?_, ?_, ?_, ?_, ?_, ?_, ?_, ?_, ?_⟩, ?_⟩
  ·
   (try dsimp only)
   all_goals (omega)
  ·
   (try dsimp only)
   all_goals (rw [List.length_append, hl, List.length_singleton])
  ·
   (try dsimp only)
   all_goals (rw [List.nodup_append]; exact ⟨hn, List.nodup_cons.2 ⟨List.not_mem_nil, List.nodup_nil⟩, fun x hx y hy => by rw [List.mem_singleton.1 hy]; have := (hb x hx).2.2.2.2; omega⟩)
  ·
   (try dsimp only)
   all_goals (intro x hx; rcases List.mem_append.1 hx with hx | hx; (obtain ⟨h1, h2, h3, h4, h5⟩ := hb x hx; exact ⟨h1, h2, h3, h4, by omega⟩); (rw [List.mem_singleton.1 hx]; exact ⟨Ne.symm n_cb_b49, Ne.symm n_db_b49, Ne.symm n_zb_b49, g_oW_b49, a44.lt⟩))
  ·
   (try dsimp only)
   all_goals (intro x hx hm; rcases List.mem_append.1 hm with hm | hm; (rcases q_oH_bk x hx with h | h; (exact hbo x h hm); (have := (hb x hm).2.2.2.2; omega)); (exact nq_bk_b49 x hx (List.mem_singleton.1 hm)))
  ·
   exact kst_next (hK.less (xx_skip (xx_skip (xx_orq (xx_or1 (xx_or1 (xx_or1 (xx_or1 xx_id)))))))) ((a44.ps fun _ h => h).less (nx_orq nq_bk_b49 (nx_or1 n_cb_b49 (nx_or1 n_zb_b49 (nx_or1 n_db_b49 (nx_or1 n_gb_b49 (old_ne g_oW_b49))))))) hl
  ·
   (try dsimp only)
   all_goals (exact hG.less (by intro k _ h; simp only [Or1, Orq, List.mem_append, List.mem_singleton] at h ⊢; grind))
  ·
   exact o38
  ·
   exact a13
  ·
   exact a20
  ·
   exact a22
  ·
   exact a55
  ·
   exact a51
  ·
   exact q_o38_bk
  ·
   (try dsimp only)
   all_goals (omega)
 refine wpIn_exit ?_
 refine then_x (then_x (inb_e ?_))
 refine tN (wQ (wQ ?_))
 have hjD : j = D := by omega
 rw [hjD] at hK hl
 refine pL ?_
 refine wI (d_move rfl) ?_
 refine wI (d_len rfl Try.underlying70 rfl) ?_
 refine wI (d_move rfl) ?_
 refine wD (tN (wB ?_))
 refine loop2 (fun (_ : Unit) => fun (z : Nat → Value) => (([(Value.agg #[(eN D), (eN B), (eN Q)]), (Value.slice none 0 0), (ptr gb 0), undef, (z 4), (z 5), (ptr cb 0), (z 7), undef, (z 9), (Value.agg #[(eN D), (eN B), (eN Q)]), vT, vF, (Value.agg #[(eN D), (eN B), (eN Q)]), (Value.agg #[(eN D), (eN B), (eN Q)]), (Value.agg #[(eN D), (eN B), (eN Q), (sli db 0 (D * B * Q) (D * B * Q))]), (Value.agg #[(eN D), (eN B), (eN Q)]), (Value.agg #[(eN D), (eN B), (eN Q), (sli zb 0 (D * B * Q) (D * B * Q))]), (Value.agg #[(eN D), (eN B), (eN Q), (eN D), (eN B), (eN Q), (sli db 0 (D * B * Q) (D * B * Q)), (eN D), (eN B), (eN Q), (sli zb 0 (D * B * Q) (D * B * Q)), (Value.slice none 0 0), (eN 0), (Value.slice none 0 0), vF, (eN 0), (eN 0)]), (ptr cb 0), (ptr cb 0), (ptr cb 0), (ptr cb 3), (ptr cb 6), (sli db 0 (D * B * Q) (D * B * Q)), (eN (D * B * Q)), (eN (D * B * Q)), (Value.bool (decide ((D * B * Q) < (D * B * Q))))] ++ (zs z 28 10 ++ [(ptr gb 0), (eN D), (eN j), (Value.bool (decide (j < D)))] ++ (zs z 42 13 ++ [(Value.slice none 0 0), (eN 0), (eN 0)] ++ (zs z 58 23 ++ [undef])))) : List Value)) (fun (_ : Unit) => fun (w_ : World) => Only (Orq bo_bk (Or1 cb (Or1 zb (Or1 db (Or1 gb No))))) w39 w_ ∧ Arr 49 gb [(eN D), (eN B), (eN Q)] w_ ∧ Arr 22 db (vd.map eV) w_ ∧ Arr 23 zb (List.replicate (D * B * Q) (Value.slice none 0 0)) w_ ∧ Arr 81 cb [(eN D), (eN B), (eN Q), (eN D), (eN B), (eN Q), (sli db 0 (D * B * Q) (D * B * Q)), (eN D), (eN B), (eN Q), (sli zb 0 (D * B * Q) (D * B * Q)), u_bk, (eN 0), (Value.slice none 0 0), vF, (eN 0), (eN 0)] w_ ∧ Ow 83 1 bo_bk u_bk (bk).length ((bk).map (eK B)) w_) (fun (_ : Unit) => 0) () kr ?_ ?_
 ·
  refine ⟨?_, ?_, ?_, ?_, ?_, ?_⟩
  ·
   exact Only.refl _ _
  ·
   exact a13
  ·
   exact a20
  ·
   exact a22
  ·
   exact a26
  ·
   exact a37
 rintro _ z w58 ⟨o57, a13, a20, a22, a26, a37⟩
 (try dsimp only)
 replace hG := hG.step o57 (orq_mono (or1_mono (or1_mono (or1_mono (or1_mono no_any)))))
 replace hK := hK.step o57 (orq_mono (or1_mono (or1_mono (or1_mono (or1_mono no_any)))))
 replace oW := oW.tail o57 (tl_q q_oW_bk (fun _ e => by cases e) (tl_new g_oW_cb (tl_new g_oW_zb (tl_new g_oW_db (tl_new g_oW_gb tl_no)))))
 replace o28 := o28.tail o57 (tl_q q_o28_bk (fun _ e => by cases e) (tl_in in1 (tl_in (in2 in1) (tl_in (in2 (in2 in1)) (tl_in (in2 (in2 (in2 in1))) tl_no)))))
 replace o38 := o38.tail o57 (tl_q q_o38_bk (fun k e => (.inl e)) (tl_in (inq in1) (tl_in (inq (in2 in1)) (tl_in (inq (in2 (in2 in1))) (tl_in (inq (in2 (in2 (in2 in1)))) tl_no)))))
 replace oH := oH.tail o57 (tl_q q_oH_bk (fun k e => (.inl e)) (tl_in (inq in1) (tl_in (inq (in2 in1)) (tl_in (inq (in2 (in2 in1))) (tl_in (inq (in2 (in2 (in2 in1)))) tl_no)))))
 have q_o57_bk : Fr bo_bk bo_bk w39.heap.size := Fr.same
 refine wQ (pL ?_)
 refine wI (n_lss (a := 0) (b := 0) rfl rfl rfl) ?_
 refine wD (tN (wQ ?_))
 refine cond_if rfl (fun c4 => ?_) (fun c4 => ?_)
 ·
  exact absurd c4 (by decide)
 refine wpIn_exit ?_
 refine then_x (then_x (inb_e ?_))
 refine tN (wQ (pL ?_))
 refine wI (d_move rfl) ?_
 refine wI (d_assign rfl) ?_
 refine wI (d_assign rfl) ?_
 refine wD (tN ?_)
 refine wpIn_ret ?_
 refine leave0 (v := (Value.tuple #[(ptr cb 0), (eN 0)])) (res2 Try.results28 rfl rfl) ?_
 refine ⟨⟨81, 22, 23, 87, cb, db, zb, bo_bk, u_bk, bk⟩, rfl, ?_, oW⟩
 exact nd_new hD hB hQ a26 a20 a22 a37 hK (hG.less (by intro k _ h; simp only [Or1, Orq] at h ⊢; grind)) l_db hl oW (Ne.symm n_db_cb) (Ne.symm n_zb_cb) n_db_zb hn (fun x hx => by obtain ⟨h1, h2, h3, h4, h5⟩ := hb x hx; have := oH.size; exact ⟨h1, h2, h3, h4, by omega⟩) (fun x hx => ⟨nq_bk_cb x hx, nq_bk_db x hx, nq_bk_zb x hx, hbo x hx, (q_oW_bk x hx).elim (fun e => by cases e) id, a37.lts x hx⟩) g_oW_cb g_oW_db g_oW_zb
def btB (l : List UInt8) (k : Nat) : UInt8 := shrB (l.getD (k / 8) 0) (k % 8) &&& 1
end Go.Proofs.YtgalehapmdabeaaF
namespace Go.Proofs.YtgalehapmdabeaaF
open Go Shelf YtgalehapmdabeaaS Ram
def pgH (la : List UInt8) (i : Nat) : List UInt8 := (la.drop (i * 24)).take 24
def pgW (la : List UInt8) (i : Nat) : List UInt8 := ((la.drop 4).drop (i * 28)).take 28
noncomputable def pgTo (la : List UInt8) (k : Nat) : List UInt8 := List.replicate 4 0 ++ ((List.range k).map fun i => encR (pgH la i)).flatten
noncomputable def pdTo (la : List UInt8) (k : Nat) : List UInt8 := ((List.range k).map fun i => decD (pgW la i)).flatten
noncomputable def pgE (la : List UInt8) : List UInt8 := if la.length = 48 then List.replicate 4 0 ++ encR (pgH la 0) ++ encR (pgH la 1) else []
noncomputable def pgD (la : List UInt8) : Nat × List UInt8 :=
 if la.length = 60 then (if 16 < onesN (la.take 4) then (0, []) else if decB (pgW la 0) = true ∧ decB (pgW la 1) = true then (2, decD (pgW la 0) ++ decD (pgW la 1)) else (1, [])) else (1, [])
section
variable {la : List UInt8} {k : Nat}
theorem pgTo_zero (la : List UInt8) : pgTo la 0 = List.replicate 4 0 := by simp [pgTo]
theorem pgTo_snoc (la : List UInt8) (k : Nat) : pgTo la k ++ encR (pgH la k) = pgTo la (k + 1) := by simp [pgTo, List.range_succ]
theorem pgH_len (la : List UInt8) (k : Nat) : (pgH la k).length ≤ 24 := by unfold pgH; rw [List.length_take]; omega
theorem pgW_len (la : List UInt8) (k : Nat) : (pgW la k).length ≤ 28 := by unfold pgW; rw [List.length_take]; omega
theorem pgTo_len (la : List UInt8) (k : Nat) : (pgTo la k).length ≤ 4 + 28 * k := by
 induction k with
 | zero => rw [pgTo_zero]; simp
 | succ k ih =>
  rw [← pgTo_snoc, List.length_append]
  have := encR_len (pgH la k)
  omega
theorem pgE_yes (h : la.length = 48) : pgE la = List.replicate 4 0 ++ encR (pgH la 0) ++ encR (pgH la 1) := if_pos h
theorem pgE_no (h : ¬ la.length = 48) : pgE la = [] := if_neg h
theorem pgTo_done (h : la.length = 48) (u : Value) : pgTo la (partsV 24 la u).length = pgE la := by
 rw [parts_len, h, pgE_yes h]
 simp [pgTo, List.range_succ]
theorem pgH0 (la : List UInt8) : pgH la 0 = la.take 24 := by simp [pgH]
theorem pgH1 (h : la.length = 48) : pgH la 1 = la.drop 24 := List.take_of_length_le (by rw [List.length_drop, h]; decide)
theorem pgE_len (la : List UInt8) : (pgE la).length ≤ 60 := by
 unfold pgE
 split
 ·rw [List.length_append, List.length_append, List.length_replicate]
  have := encR_len (pgH la 0); have := encR_len (pgH la 1)
  omega
 ·simp
theorem pdTo_zero (la : List UInt8) : pdTo la 0 = [] := by simp [pdTo]
theorem pdTo_snoc (la : List UInt8) (k : Nat) : pdTo la k ++ decD (pgW la k) = pdTo la (k + 1) := by simp [pdTo, List.range_succ]
theorem pdTo_len (la : List UInt8) (k : Nat) : (pdTo la k).length ≤ 28 * k := by
 induction k with
 | zero => rw [pdTo_zero]; simp
 | succ k ih =>
  rw [← pdTo_snoc, List.length_append]
  have := decD_len (pgW la k)
  omega
theorem pgD_size (h : ¬ la.length = 60) : pgD la = (1, []) := if_neg h
theorem pgD_blank (h : la.length = 60) (h2 : 16 < onesN (la.take 4)) : pgD la = (0, []) := by unfold pgD; rw [if_pos h, if_pos h2]
theorem pgD_bad (h : la.length = 60) (h2 : ¬ 16 < onesN (la.take 4)) {k : Nat} (hk : k < 2) (h3 : decB (pgW la k) = false) : pgD la = (1, []) := by
 unfold pgD
 rw [if_pos h, if_neg h2, if_neg]
 rintro ⟨h4, h5⟩
 rcases (show k = 0 ∨ k = 1 by omega) with rfl | rfl
 ·rw [h3] at h4; cases h4
 ·rw [h3] at h5; cases h5
theorem pgD_good (h : la.length = 60) (h2 : ¬ 16 < onesN (la.take 4)) (h3 : decB (pgW la 0) = true) (h4 : decB (pgW la 1) = true) : pgD la = (2, decD (pgW la 0) ++ decD (pgW la 1)) := by
 unfold pgD
 rw [if_pos h, if_neg h2, if_pos ⟨h3, h4⟩]
theorem pgD_good2 (h : la.length = 60) (h2 : ¬ 16 < onesN (la.take 4)) (u : Value) (h3 : ∀ i, i < (partsV 28 (la.drop 4) u).length → decB (pgW la i) = true) : pgD la = (2, pdTo la (partsV 28 (la.drop 4) u).length) := by
 have hl : (partsV 28 (la.drop 4) u).length = 2 := by rw [parts_len, List.length_drop, h]
 rw [hl] at h3 ⊢
 rw [pgD_good h h2 (h3 0 (by decide)) (h3 1 (by decide))]
 simp [pdTo, List.range_succ]
end
def RPg (n : Nat) (l : List UInt8) (W : World) : Value → World → Prop := fun u w => ∃ a, u = .agg #[eN n, a] ∧ Ps (Old W.heap.size) (Seq kB l a) w ∧ Only No W w
def PgV (n : Nat) (l : List UInt8) (u : Value) (w : World) : Prop := ∃ a, u = .agg #[eN n, a] ∧ Seq kB l a w
theorem RPg.of {la : List UInt8} {n : Nat} {l : List UInt8} {W w : World} {a : Value} (h : pgD la = (n, l)) (hp : Ps (Old W.heap.size) (Seq kB l a) w) (ho : Only No W w) : RPg (pgD la).1 (pgD la).2 W (.agg [eN n, a].toArray) w := by rw [h]; exact ⟨a, rfl, hp, ho⟩
end Go.Proofs.YtgalehapmdabeaaF
set_option maxRecDepth 20000
set_option maxHeartbeats 4000000
namespace Go.Proofs.YtgalehapmdabeaaF
open Go Shelf YtgalehapmdabeaaS Ram
theorem pageParts_ok (la : List UInt8) (n : Nat) (u1 : Value) (W : World) (h1 : Ps No (Seq kB la u1) W) :
    CW Try.prog 39 #[u1, (eN n)] W (Rt (fun u w => ∃ b c, u = .func (.func 62) #[] #[ptr b 0, ptr c 0] ∧ W.heap.size ≤ b ∧ W.heap.size ≤ c ∧ b ≠ c ∧ Arr 22 b [u1] w ∧ Arr 3 c [eN n] w ∧ Only No W w)) := by
 have oW : Only No W W := Only.refl _ _
 refine enter (al := [u1, (eN n)]) (k := 4) (l := [u1, (eN n), undef, undef, undef, undef]) Try.func39 rfl Try.ntmps39 rfl rfl ?_
 refine wQ (pL ?_)
 refine wO (d_box rfl (Seq.cells h1)) ?_
 rintro _ w11 ⟨b, rfl, g12, a13, o14⟩
 have g_oW_b : W.heap.size ≤ b := Nat.le_trans oW.size g12
 replace h1 := h1.new o14 g12
 replace oW := oW.tail0 o14
 refine wO (d_box rfl rfl) ?_
 rintro _ w15 ⟨c, rfl, g16, a17, o18⟩
 have n_b_c : b ≠ c := a13.ne g16
 have g_oW_c : W.heap.size ≤ c := Nat.le_trans oW.size g16
 replace h1 := h1.new o18 g16
 replace a13 := a13.step0 o18
 replace oW := oW.tail0 o18
 refine wI (d_assign rfl) ?_
 refine wD (tN (wQ (pL ?_)))
 refine wI (d_funcL (yl := [.tmp 2, .tmp 3]) (ys := [(ptr b 0), (ptr c 0)]) rfl) ?_
 refine wI (d_assign rfl) ?_
 refine wD (tN ?_)
 refine wpIn_ret ?_
 refine leave0 (v := (Value.func (.func 62) #[] #[(ptr b 0), (ptr c 0)])) (res1 Try.results39 rfl) ?_
 exact ⟨b, c, rfl, g_oW_b, g_oW_c, n_b_c, a13, a17, oW⟩
theorem pageParts1_ok {O X : Nat → Prop} {w0 : World} (n : Nat) (lw : List UInt8) (uw : Value) (b c l : Nat) (J Jx : List Value → World → Prop) (W : World) (hn : 0 < n) (hb : Arr 22 b [uw] W) (hc : Arr 3 c [eN n] W) (n_b_c : b ≠ c) (kb : Kp O w0.heap.size b) (kc : Kp O w0.heap.size c) (hw : Ps (OrN X w0.heap.size) (Seq kB lw uw) W) (hX : ∀ k, O k → X k) (hXb : X b) (hg : lw.length ≤ 1048576) (SJ : ∀ pre W W', J pre W → Only (Or1 b No) W W' → J pre W') (hy : ∀ pre x, pre ++ [x] <+: partsV n lw uw → ∀ W1, J pre W1 → YieldAt Fence.wide 0 Try.prog l #[x] W1 fun e W' => ∃ u, e = .returned u ∧ YR J Jx (Kp O w0.heap.size) (pre ++ [x]) W1 u W') (hJ : J [] W) :
    CW Try.prog 62 #[(Value.func (.yield l) #[] #[]), (ptr b 0), (ptr c 0)] W (Rt (fun _ W' => J (partsV n lw uw) W' ∨ ∃ pre, pre <+: partsV n lw uw ∧ Jx pre W')) := by
 refine enter (al := [(Value.func (.yield l) #[] #[]), (ptr b 0), (ptr c 0)]) (k := 18) (l := ([(Value.func (.yield l) #[] #[]), (ptr b 0), (ptr c 0)] ++ (us 18))) Try.func62 rfl Try.ntmps62 rfl rfl ?_
 refine wB ?_
 refine loop2 (fun (i : (Nat)) => fun (z : Nat → Value) => (([(Value.func (.yield l) #[] #[]), (ptr b 0), (ptr c 0), undef] ++ (zs z 4 17)) : List Value)) (fun (i : (Nat)) => fun (w_ : World) => (i ≤ lw.length / n) ∧ (J ((partsV n lw uw).take i) w_) ∧ Arr 22 b [(pu n lw uw i)] w_ ∧ Arr 3 c [(eN n)] w_ ∧ Ps (OrN X w0.heap.size) (Seq kB lw uw) w_) (fun (i : (Nat)) => lw.length / n - i) 0 rfl ?_ ?_
 ·
  refine ⟨?_, ?_, ?_, ?_, ?_⟩
  ·
   exact Nat.zero_le _
  ·
   exact hJ
  ·
   exact hb
  ·
   exact hc
  ·
   exact hw
 rintro i z w12 ⟨hi, hJ, hb, hc, hw⟩
 (try dsimp only)
 have hp_ := pu_seq hn hw i hi
 refine wQ (wQ ?_)
 by_cases c0_ : n ≤ ((lw.drop (i * n)).length)
 ·
  refine pL ?_
  refine wI (d_load (v := (pu n lw uw i)) ⟨_, Try.underlying22, rfl⟩ rfl hb rfl) ?_
  refine wI (d_lenS rfl Try.underlying22 rfl hp_) ?_
  refine wI (d_load (v := (eN n)) ⟨_, Try.underlying3, rfl⟩ rfl hc rfl) ?_
  refine wI (n_geq (a := ((lw.drop (i * n)).length)) (b := n) rfl rfl (decide_eq_true c0_)) ?_
  refine wI (d_move rfl) ?_
  refine wG (d_load (v := (eN n)) ⟨_, Try.underlying3, rfl⟩ rfl hc rfl) ?_
  refine wG (n_gtr (a := n) (b := 0) rfl rfl (decide_eq_true hn)) ?_
  refine wF ([(Value.func (.yield l) #[] #[]), (ptr b 0), (ptr c 0), undef, (pu n lw uw i), (eN ((lw.drop (i * n)).length)), (eN n), vT, vT, (eN n), vT] ++ (zs z 11 10)) ?_
  refine wI (d_pick (b := true) (v := vT) rfl rfl) ?_
  refine wD (tN ?_)
  refine cond_t rfl ?_
  refine wK (tN ?_)
  refine forget (fun zf13 => ([(Value.func (.yield l) #[] #[]), (ptr b 0), (ptr c 0), undef] ++ (zs zf13 4 17))) kr (fun zf13 => ?_)
  refine wB (wQ (wQ (pL ?_)))
  refine wI (d_move rfl) ?_
  refine wI (d_load (v := (pu n lw uw i)) ⟨_, Try.underlying22, rfl⟩ rfl hb rfl) ?_
  refine wI (d_load (v := (eN n)) ⟨_, Try.underlying3, rfl⟩ rfl hc rfl) ?_
  have f14 : Ps _ (Seq kB ((lw.drop (i * n)).take n) (subv 1 0 n (pu n lw uw i))) _ := subv_seq (q := kB) (l := 0) (h := n) (ys := ((lw.drop (i * n)).take n)) hp_ oo c0_ (by first | (rw [List.take_length]; done) | (simp; done))
  refine wI (d_subv (q := kB) (xs := (lw.drop (i * n))) (l := 0) (h := n) Try.underlying22 s_ti5 rfl hp_ Bd.none (Bd.some (l := n) (k := .i64) rfl) oo c0_) ?_
  refine wO (d_yield (xl := [.tmp 15]) (al := [(subv 1 0 n (pu n lw uw i))]) rfl rfl (hy _ _ (parts_pre ((parts_more hn).1 c0_)) _ hJ)) ?_
  rintro _ w15 ⟨t, rfl, hT, hF⟩
  refine wI (d_not rfl rfl) ?_
  refine wD (tN ?_)
  refine cond_b rfl (fun k0_ => ?_) (fun k0_ => ?_)
  ·
   refine wpIn_ret ?_
   refine then_r (inb_r (then_r (inb_r ?_)))
   refine leave0 (v := (Value.tuple #[])) (res0 Try.results62) ?_
   exact .inr ⟨_, parts_pre ((parts_more hn).1 c0_), hF (by simpa using k0_)⟩
  obtain ⟨hJ3, oY⟩ := hT (by simpa using k0_)
  rw [parts_snoc ((parts_more hn).1 c0_)] at hJ3
  replace hb := hb.step oY (fun h => h kb)
  replace hc := hc.step oY (fun h => h kc)
  replace hw := hw.yield hX oY
  replace hp_ := hp_.yield hX oY
  replace f14 := f14.yield hX oY
  refine wK (tN (pL ?_))
  refine wI (d_load (v := (pu n lw uw i)) ⟨_, Try.underlying22, rfl⟩ rfl hb rfl) ?_
  refine wF ([(Value.func (.yield l) #[] #[]), (ptr b 0), (ptr c 0), undef] ++ (zs zf13 4 8 ++ [(Value.func (.yield l) #[] #[]), (pu n lw uw i), (eN n), (subv 1 0 n (pu n lw uw i)), (Value.bool t), (Value.bool (!t)), (pu n lw uw i), (zf13 19), (zf13 20)])) ?_
  refine wI (d_load (v := (eN n)) ⟨_, Try.underlying3, rfl⟩ rfl hc rfl) ?_
  have f16 : Ps _ (Seq kB ((lw.drop (i * n)).drop n) (subv 1 n ((lw.drop (i * n)).length) (pu n lw uw i))) _ := subv_seq (q := kB) (l := n) (h := ((lw.drop (i * n)).length)) (ys := ((lw.drop (i * n)).drop n)) hp_ c0_ (Nat.le_refl _) (by first | (rw [List.take_length]; done) | (simp; done))
  refine wI (d_subv (q := kB) (xs := (lw.drop (i * n))) (l := n) (h := ((lw.drop (i * n)).length)) Try.underlying22 s_ti5 rfl hp_ (Bd.some (l := n) (k := .i64) rfl) Bd.none c0_ (Nat.le_refl _)) ?_
  refine wO (d_store s_ti22 rfl rfl (Seq.one f16) hb (nb rfl) rfl) ?_
  rintro _ w17 ⟨a18, o19⟩
  replace hw := hw.stepb o19 (.inl hXb)
  replace hp_ := hp_.stepb o19 (.inl hXb)
  replace f14 := f14.stepb o19 (.inl hXb)
  replace f16 := f16.stepb o19 (.inl hXb)
  replace hc := hc.step o19 (fun e => absurd e (Ne.symm n_b_c))
  replace hJ3 := SJ _ _ _ hJ3 (o19.mono fun k _ e => .inl e)
  refine wD ?_
  refine inb_n (tN ?_)
  refine ⟨_, (i + 1), rfl, kr, ⟨?_, ?_, ?_, ?_, ?_⟩, ?_⟩
  ·
   exact ((parts_more hn).1 c0_)
  ·
   exact hJ3
  ·
   exact a18
  ·
   exact hc
  ·
   exact hw
  ·
   (try dsimp only)
   all_goals (have h_ := ((parts_more hn).1 c0_); omega)
 refine pL ?_
 refine wI (d_load (v := (pu n lw uw i)) ⟨_, Try.underlying22, rfl⟩ rfl hb rfl) ?_
 refine wI (d_lenS rfl Try.underlying22 rfl hp_) ?_
 refine wI (d_load (v := (eN n)) ⟨_, Try.underlying3, rfl⟩ rfl hc rfl) ?_
 refine wI (n_geq (a := ((lw.drop (i * n)).length)) (b := n) rfl rfl (decide_eq_false c0_)) ?_
 refine wI (d_move rfl) ?_
 refine wX ?_
 refine wX ?_
 refine wI (d_pick (b := false) (v := vF) rfl rfl) ?_
 refine wF ([(Value.func (.yield l) #[] #[]), (ptr b 0), (ptr c 0), undef, (pu n lw uw i), (eN ((lw.drop (i * n)).length)), (eN n), vF, vF, undef, undef, vF] ++ (zs z 12 9)) ?_
 refine wD (tN ?_)
 refine cond_f rfl ?_
 refine wpIn_exit ?_
 refine then_x (then_x (inb_e ?_))
 refine to_ret ?_
 refine leave0 (v := (Value.tuple #[])) (res0 Try.results62) ?_
 exact .inl (by rw [parts_all (fun h => c0_ ((parts_more hn).2 h))] at hJ; exact hJ)
theorem iter_pageParts {O X : Nat → Prop} {w0 : World} (n : Nat) (lw : List UInt8) (uw : Value) (b c : Nat) (hn : 0 < n) (hg : lw.length ≤ 1048576) (hb : Arr 22 b [uw] w0) (hc : Arr 3 c [eN n] w0) (n_b_c : b ≠ c) (nb : ¬ O b) (nc : ¬ O c) (hw : Ps X (Seq kB lw uw) w0) (hX : ∀ k, O k → X k) (hXb : X b) : Iter Try.prog 62 [ptr b 0, ptr c 0].toArray (fun x => [x].toArray) (Or1 b No) (Kp O w0.heap.size) (partsV n lw uw) w0 :=
  iter_of (encs := fun x => [x]) fun l J Jx W hO SJ SJx hy hJ => pageParts1_ok n lw uw b c l J Jx W hn (hb.step hO (fun h => h ⟨hb.lt, nb⟩)) (hc.step hO (fun h => h ⟨hc.lt, nc⟩)) n_b_c ⟨hb.lt, nb⟩ ⟨hc.lt, nc⟩ (hw.kp hX hO) hX hXb hg SJ hy hJ
theorem pageEncode_ok (la : List UInt8) (u1 : Value) (W : World) (h1 : Ps No (Seq kB la u1) W) (g1 : la.length ≤ 1048576) :
    CW Try.prog 16 #[u1] W (Rt (ROw 5 eB (pgE la) W)) := by
 have oW : Only No W W := Only.refl _ _
 refine enter (al := [u1]) (k := 17) (l := ([u1] ++ (us 17))) Try.func16 rfl Try.ntmps16 rfl rfl ?_
 refine wQ (pL ?_)
 refine wI (d_assign rfl) ?_
 refine wD (tN (wQ (wQ (pL ?_))))
 refine wI (d_move rfl) ?_
 refine wI (d_lenS rfl Try.underlying22 rfl h1) ?_
 refine wI (n_neq (a := la.length) (b := 48) rfl rfl rfl) ?_
 refine wD (tN ?_)
 refine cond_un rfl (fun c0 => ?_) (fun c0 => ?_)
 ·
  refine wQ (pL ?_)
  refine wI (d_assign rfl) ?_
  refine wD (tN ?_)
  refine wpIn_ret ?_
  refine then_r ?_
  refine leave0 (v := (Value.slice none 0 0)) (res1 Try.results16 rfl) ?_
  exact ROw.nil ((pgE_no c0).symm) oW
 refine wK (tN (wQ ?_))
 refine wp_eq (l' := ([u1, undef, (Value.slice none 0 0), undef, undef, u1, (eN la.length), (Value.bool (!decide (la.length = 48)))] ++ (us 10))) rfl ?_
 refine pL ?_
 refine wO (d_make1 (n := 4) Try.underlying22 s_ti5 rfl rfl oo oo rfl) ?_
 rintro _ w11 ⟨o, rfl, g12, a13, o14⟩
 replace a13 : Arr 5 o ((List.replicate 4 0).map eB) w11 := by rw [List.map_replicate]; exact a13
 have l_o : (List.replicate 4 0 : List UInt8).length = 4 := by simp
 have g_oW_o : W.heap.size ≤ o := Nat.le_trans oW.size g12
 replace h1 := h1.new o14 g12
 replace oW := oW.tail0 o14
 refine wO (d_alloc s_ti22 rfl) ?_
 rintro _ w15 ⟨oc, rfl, g16, a17, o18⟩
 have n_o_oc : o ≠ oc := a13.ne g16
 have g_oW_oc : W.heap.size ≤ oc := Nat.le_trans oW.size g16
 replace h1 := h1.new o18 g16
 replace a13 := a13.step0 o18
 replace oW := oW.tail0 o18
 refine wO (d_store s_ti22 rfl rfl rfl a17 (nb rfl) rfl) ?_
 rintro _ w19 ⟨a20, o21⟩
 replace h1 := h1.stepb o21 in1
 replace a13 := a13.step o21 (fun e => absurd e n_o_oc)
 replace oW := oW.tailb o21 g_oW_oc
 refine wF ([u1, undef, (Value.slice none 0 0), (ptr oc 0), undef, u1, (eN la.length), (Value.bool (!decide (la.length = 48))), (sli o 0 4 4)] ++ (us 9)) ?_
 refine wD ?_
 have a22 := Ow.of_map2 a13 l_o
 have nq_r_oc := nq_b n_o_oc
 have q_oW_r : Fr (some o) none W.heap.size := Fr.new g_oW_o
 replace h1 := h1.less (Y := (Or1 oc (Orq (some o) No))) (xx_or1 (xx_br xx_id))
 refine tN (wQ (wQ (pL ?_)))
 refine wI (d_move rfl) ?_
 refine wO (d_call (xl := [.tmp 9, .const (.int .i64 24)]) (al := [u1, (eN 24)]) Try.func39 kr rfl rfl rfl (pageParts_ok la 24 u1 _ (Ps.no h1))) ?_
 rintro _ w23 ⟨b25, b26, rfl, g27, g28, n31, a29, a30, o24⟩
 have n_oc_b25 : oc ≠ b25 := a20.ne g27
 have nq_r_b25 : ∀ x, (some o) = some x → ¬ x = b25 := fun x hx e => by have := a22.lts x hx; omega
 have g_oW_b25 : W.heap.size ≤ b25 := Nat.le_trans oW.size g27
 replace h1 := Ps.less (Y := Or1 b25 (Or1 oc (Orq (some o) No))) h1 (xx_new g27 xx_id)
 have n_b25_b26 : b25 ≠ b26 := n31
 have n_oc_b26 : oc ≠ b26 := a20.ne g28
 have nq_r_b26 : ∀ x, (some o) = some x → ¬ x = b26 := fun x hx e => by have := a22.lts x hx; omega
 have g_oW_b26 : W.heap.size ≤ b26 := Nat.le_trans oW.size g28
 replace h1 := h1.new o24 g28
 replace a20 := a20.step0 o24
 replace a22 := a22.step0 o24
 replace oW := oW.tail0 o24
 refine wD (tN (wB ?_))
 refine wp_eq (l' := ([u1, undef, (Value.slice none 0 0), (ptr oc 0), undef, u1, (eN la.length), (Value.bool (!decide (la.length = 48))), (sli o 0 4 4), u1, (Value.func (.func 62) #[] #[(ptr b25 0), (ptr b26 0)])] ++ (us 7))) rfl ?_
 have h_lt_oc := a20.lt
 have h_lt_b26 := a30.lt
 have h_lt_b25 := a29.lt
 have h_lts_r := a22.lts
 have tq_oW := oW.size
 have nO_b25 : ¬ (Or1 oc (Orq (some o) No)) b25 := (not_or1 (Ne.symm n_oc_b25) (not_orq (fun x hx e => nq_r_b25 x hx e) not_no))
 have nO_b26 : ¬ (Or1 oc (Orq (some o) No)) b26 := (not_or1 (Ne.symm n_oc_b26) (not_orq (fun x hx e => nq_r_b26 x hx e) not_no))
 obtain ⟨D_, hD_⟩ : ∃ D_, w23.heap.size = D_ := ⟨_, rfl⟩
 obtain ⟨L_, hL_⟩ : ∃ L_, w23.heap.size + 1 = L_ := ⟨_, rfl⟩
 refine range_ (encs := (fun x => [x])) (Pv := (Or1 b25 No)) (O := (Or1 oc (Orq (some o) No))) (xs := (partsV 24 la u1)) (D := D_) (L := L_) (rs := []) hD_ hL_ rfl Try.func62 kr rfl (iter_pageParts 24 la u1 b25 b26 (by decide) fo a29 a30 n_b25_b26 nO_b25 nO_b26 h1 (or1_skip (or1_skip (or1_mono (orq_mono no_any)))) (in2 in1)) (fun k t => by simp only [Or1, No, or_false] at t; subst t; exact ⟨h_lt_b25, nO_b25⟩) (fun _ => rfl) (lt_or1 h_lt_oc (lt_orq h_lts_r lt_no)) (fun (pre : List Value) (w_ : World) => ∃ (bo_r : Option Nat) (u_r : Value), Only (Or1 b25 (Or1 oc (Orq (some o) No))) w23 w_ ∧ Arr 22 oc [u_r] w_ ∧ Arr 3 b26 [(eN 24)] w_ ∧ Dead b25 w_ ∧ Ow 5 1 bo_r u_r (pgTo la pre.length).length ((pgTo la pre.length).map eB) w_ ∧ Fr bo_r (some o) w23.heap.size ∧ (∀ x, bo_r = some x → ¬ x = b25) ∧ (∀ x, bo_r = some x → ¬ x = D_) ∧ (∀ x, bo_r = some x → ¬ x = L_)) (fun _ _ _ => False) ?_ ?_ ?_ ?_ ?_ ?_
 ·
  rintro pre w_ w2_ ⟨bo_r, u_r, o32, a20, a30, a29, a22, qq_r, nq_r_b25, nq_r_D_, nq_r_L_⟩ ho_
  exact ⟨bo_r, u_r, o32.tail ho_ (stab_tl hD_ hL_ (fun k t => by simp only [Or1, No, or_false] at t; subst t; exact in1)), a20.step ho_ (stab_b hD_ hL_ h_lt_oc (not_or1 n_oc_b25 not_no)), a30.step ho_ (stab_b hD_ hL_ h_lt_b26 (not_or1 (Ne.symm n_b25_b26) not_no)), Nat.lt_of_lt_of_le a29 ho_.size, a22.step ho_ (stab_q nq_r_D_ nq_r_L_ (fun b hb => not_or1 (nq_r_b25 b hb) not_no)), qq_r, nq_r_b25, nq_r_D_, nq_r_L_⟩
 ·
  intro _ _ _ _ h _; exact h.elim
 ·
  refine ⟨(some o), (sli o 0 4 4), ?_, ?_, ?_, ?_, ?_, ?_, ?_, ?_, ?_⟩
  ·
   exact Only.refl _ _
  ·
   exact a20
  ·
   exact a30
  ·
   exact a29.lt
  ·
   (try dsimp only)
   all_goals (rw [← pgTo_zero la] at a22; exact a22)
  ·
   exact Fr.same
  ·
   exact nq_r_b25
  ·
   (try dsimp only)
   all_goals (exact fun x hx e => by have := h_lts_r x hx; omega)
  ·
   (try dsimp only)
   all_goals (exact fun x hx e => by have := h_lts_r x hx; omega)
 ·
  intro pre x w1_ hpx_ hI_ hL1_
  obtain ⟨bo_r, u_r, o32, a20, a30, a29, a22, qq_r, nq_r_b25, nq_r_D_, nq_r_L_⟩ := hI_
  replace h1 := Ps.re (X' := (Or1 L_ (Or1 D_ (Or1 b26 (Or1 b25 (Or1 oc (Orq bo_r No))))))) h1 o32 (or1_skip (or1_mono (or1_mono (orq_mono no_any)))) (xx_new oo (xx_new (Nat.le_of_eq hD_) (xx_or1 (xx_or1 (xx_or1 (xx_re qq_r xx_id))))))
  replace oW := oW.tail o32 (tl_new g_oW_b25 (tl_new g_oW_oc (tl_q q_oW_r (fun _ e => by cases e) tl_no)))
  replace q_oW_r := qtr qq_r q_oW_r tq_oW
  replace nq_r_oc := nqs nq_r_oc qq_r h_lt_oc
  replace nq_r_b26 := nqs nq_r_b26 qq_r h_lt_b26
  have q_o32_r : Fr bo_r (some o) w23.heap.size := qq_r
  have n_oc_D_ : oc ≠ D_ := by omega
  have n_b26_D_ : b26 ≠ D_ := by omega
  have n_b25_D_ : b25 ≠ D_ := by omega
  have g_oW_D_ : W.heap.size ≤ D_ := by omega
  have g_o32_D_ : w23.heap.size ≤ D_ := by omega
  have n_oc_L_ : oc ≠ L_ := by omega
  have n_b26_L_ : b26 ≠ L_ := by omega
  have n_b25_L_ : b25 ≠ L_ := by omega
  have g_oW_L_ : W.heap.size ≤ L_ := by omega
  have g_o32_L_ : w23.heap.size ≤ L_ := by omega
  have n_D__L_ : D_ ≠ L_ := by omega
  have aL_ : Dead L_ w1_ := hL1_
  have aD_ : Dead D_ w1_ := by unfold Dead; omega
  refine wp_eq (l' := ([u1, undef, (Value.slice none 0 0), (ptr oc 0), undef, u1, (eN la.length), (Value.bool (!decide (la.length = 48))), (sli o 0 4 4), u1, (Value.func (.func 62) #[] #[(ptr b25 0), (ptr b26 0)]), x] ++ (us 6))) kr ?_
  refine pL ?_
  refine wI (d_assign rfl) ?_
  refine wD (tN ?_)
  refine ⟨Only.refl _ _, fun w2_ oL_ _ => ?_⟩
  replace h1 := h1.stepb oL_ in1
  replace a20 := a20.step oL_ (fun e => absurd e n_oc_L_)
  replace a30 := a30.step oL_ (fun e => absurd e n_b26_L_)
  replace a29 := a29.step oL_ (fun e => absurd e n_b25_L_)
  replace aD_ := aD_.step oL_ (fun e => absurd e n_D__L_)
  replace a22 := a22.step oL_ (fun x hx e => nq_r_L_ x hx e)
  replace oW := oW.tailb oL_ g_oW_L_
  replace o32 := o32.tailb oL_ g_o32_L_
  replace aL_ : Dead L_ w2_ := Nat.lt_of_lt_of_le aL_ oL_.size
  have oR_ : Only (fun k => (Or1 oc (Orq (some o) No)) k ∨ L_ < k) w2_ w2_ := Only.refl _ _
  have nqD0_r := nq_r_D_
  have nqL0_r := nq_r_L_
  have q_oR__r : Fr bo_r bo_r w2_.heap.size := Fr.same
  obtain ⟨hp_, hx_⟩ := parts_in hpx_
  have fx_ := pv_seq (n := 24) (by decide) h1 pre.length hp_
  rw [← hx_] at fx_
  refine wB ?_
  refine wp_eq (l' := ([u1, undef, (Value.slice none 0 0), (ptr oc 0), x, u1, (eN la.length), (Value.bool (!decide (la.length = 48))), (sli o 0 4 4), u1, (Value.func (.func 62) #[] #[(ptr b25 0), (ptr b26 0)]), x] ++ (us 6))) rfl ?_
  refine drawnT (O := (Or1 oc (Orq bo_r No))) (n := 5) 3 [0, 0, 2, 7, 15] [(0, 12), (1, 13), (2, 14), (3, 15)] [(0, 12), (1, 13), (2, 14)] [0, 1, 2] [] (fun i_ => ([RF.is (Or1 oc (Orq bo_r No)) u_r, RF.is (Or1 oc (Orq bo_r No)) x, RF.ps (Or1 oc (Orq bo_r No)) (Or1 L_ (Or1 D_ (Or1 b26 (Or1 b25 (Or1 oc (Orq bo_r (Old W.heap.size))))))) (Seq kB (encR (pgH la pre.length))) (or1_skip (or1_skip (or1_skip (or1_skip (or1_mono (orq_mono no_any))))))] : List (RF (Or1 oc (Orq bo_r No)))).getD i_ (RF.any (Or1 oc (Orq bo_r No)))) (fun _ w_ => Arr 22 oc [u_r] w_ ∧ Arr 3 b26 [(eN 24)] w_ ∧ Dead b25 w_ ∧ Dead D_ w_ ∧ Dead L_ w_ ∧ Ow 5 1 bo_r u_r (pgTo la pre.length).length ((pgTo la pre.length).map eB) w_) (fun v33 => [u1, undef, (Value.slice none 0 0), (ptr oc 0), x, u1, (eN la.length), (Value.bool (!decide (la.length = 48))), (sli o 0 4 4), u1, (Value.func (.func 62) #[] #[(ptr b25 0), (ptr b26 0)]), x, (v33 0), (v33 1), (v33 2), (v33 3), undef, undef]) (fun v33 => [u1, undef, (Value.slice none 0 0), (ptr oc 0), x, u1, (eN la.length), (Value.bool (!decide (la.length = 48))), (sli o 0 4 4), u1, (Value.func (.func 62) #[] #[(ptr b25 0), (ptr b26 0)]), x, (v33 0), (v33 1), (v33 2), undef, undef, undef]) s_mx kr rfl (by decide) (by rfl) kr kr kr (by rfl) (fun v_ => by kernel_rfl) (fun v_ => by kernel_rfl) (fun _ => fun w_ w2_ h ho => by obtain ⟨r_a20, r_a30, r_a29, r_aD_, r_aL_, r_a22⟩ := h; exact ⟨r_a20.step0 ho, r_a30.step0 ho, r_a29.step0 ho, r_aD_.step0 ho, r_aL_.step0 ho, r_a22.step0 ho⟩) ⟨a20, a30, a29, aD_, aL_, a22⟩ ?_ ?_ ?_
  ·
   refine ls_cons ?_ ?_
   ·
    intro v33 lo hi w_ k_ hO hd _ _ hk_ _ hR hold
    obtain ⟨r_a20, r_a30, r_a29, r_aD_, r_aL_, r_a22⟩ := hR
    clear hd hold
    refine ⟨_, rfl, gd rfl ?_⟩
    exact Does.is (d_load (v := u_r) ⟨_, Try.underlying22, rfl⟩ rfl r_a20 rfl)
   refine ls_cons ?_ ?_
   ·
    intro v33 lo hi w_ k_ hO hd _ _ hk_ _ hR hold
    obtain ⟨r_a20, r_a30, r_a29, r_aD_, r_aL_, r_a22⟩ := hR
    clear hd hold
    refine ⟨_, rfl, gd rfl ?_⟩
    exact Does.is (d_move rfl)
   refine ls_cons ?_ ?_
   ·
    intro v33 lo hi w_ k_ hO hd _ _ hk_ _ hR hold
    obtain ⟨r_a20, r_a30, r_a29, r_aD_, r_aL_, r_a22⟩ := hR
    have e1 : v33 1 = x := hd 1 kr
    clear hd hold
    refine ⟨_, rfl, gd rfl ?_⟩
    refine Does.mono (R := ROw 5 eB (encR (pgH la pre.length)) w_) ?_ (fun u w' h => ⟨(h.ps).1.less (or1_old r_aL_.lt (or1_old r_aD_.lt (or1_old r_a30.lt (or1_old r_a29.lt (or1_old r_a20.lt (orq_old r_a22.lts (old_old (Nat.le_trans oW.size hO.size)))))))), (h.ps).2⟩)
    exact d_call (xl := [.tmp 13]) (al := [x]) Try.func40 kr rfl (show ([(v33 1)] : List Value) = [x] from by rw [e1]) rfl (bchEncode_ok (pgH la pre.length) x _ (Ps.no (fx_.step hO (or1_skip (or1_skip (or1_skip (or1_skip (or1_mono (orq_mono no_any)))))))) (by have := pgH_len la pre.length; first | omega | (simp; done) | (simp; omega)))
   exact ls_nil
  ·
   exact ms_nil
  intro v33 lo_ hi_ w34 o35 hd iv_ hR
  have e0 : v33 0 = u_r := hd 0 (by decide)
  have e1 : v33 1 = x := hd 1 (by decide)
  have f_v33_2 : Ps (Or1 L_ (Or1 D_ (Or1 b26 (Or1 b25 (Or1 oc (Orq bo_r (Old W.heap.size))))))) (Seq kB (encR (pgH la pre.length)) (v33 2)) w34 := hd 2 (by decide)
  clear hd iv_ lo_ hi_
  refine wpL.flat [u1, undef, (Value.slice none 0 0), (ptr oc 0), x, u1, (eN la.length), (Value.bool (!decide (la.length = 48))), (sli o 0 4 4), u1, (Value.func (.func 62) #[] #[(ptr b25 0), (ptr b26 0)]), x, u_r, x, (v33 2), undef, undef, undef] (by rw [e0, e1] <;> rfl) ?_
  clear e0 e1
  replace h1 := h1.step o35 (or1_skip (or1_skip (or1_skip (or1_skip (or1_mono (orq_mono no_any))))))
  replace fx_ := fx_.step o35 (or1_skip (or1_skip (or1_skip (or1_skip (or1_mono (orq_mono no_any))))))
  obtain ⟨xr_a20, xr_a30, xr_a29, xr_aD_, xr_aL_, xr_a22⟩ := hR
  replace a20 : Arr 22 oc [u_r] w34 := xr_a20
  replace a30 : Arr 3 b26 [(eN 24)] w34 := xr_a30
  replace a29 : Dead b25 w34 := xr_a29
  replace aD_ : Dead D_ w34 := xr_aD_
  replace aL_ : Dead L_ w34 := xr_aL_
  replace a22 : Ow 5 1 bo_r u_r (pgTo la pre.length).length ((pgTo la pre.length).map eB) w34 := xr_a22
  clear xr_a20 xr_a30 xr_a29 xr_aD_ xr_aL_ xr_a22
  replace oW := oW.tail o35 (tl_new g_oW_oc (tl_q q_oW_r (fun _ e => by cases e) tl_no))
  replace o32 := o32.tail o35 (tl_in (in2 in1) (tl_q q_o32_r (fun k e => (.inr (.inr (.inl e)))) tl_no))
  replace oR_ := oR_.tail o35 (tl_in (Or.inl in1) (tl_q q_oR__r (q_T qq_r (fun k e => (.inr (.inl e))) nqD0_r nqL0_r hD_ hL_) tl_no))
  refine wO (d_append Try.underlying22 Try.underlying22 s_ti5 rfl rfl rfl a22 (SrcV.of_seq f_v33_2 (fun _ => rfl)) (by have := pgTo_len la pre.length; have := encR_len (pgH la pre.length); have : la.length / 24 = 2 := oo; omega) (by have := pgTo_len la pre.length; have := encR_len (pgH la pre.length); have : la.length / 24 = 2 := oo; omega) rfl) ?_
  rintro u36 w37 ⟨bo38, a39, o40, q41⟩
  replace a39 : Ow 5 1 bo38 u36 ((pgTo la pre.length) ++ (encR (pgH la pre.length))).length (((pgTo la pre.length) ++ (encR (pgH la pre.length))).map eB) w37 := by rw [List.length_append, List.map_append]; exact a39
  replace h1 := h1.gr o40 (fun k e => (.inr (.inr (.inr (.inr (.inr (.inl e))))))) (xx_or1 (xx_or1 (xx_or1 (xx_or1 (xx_or1 (xx_re (Fr.of_or q41) xx_id))))))
  replace fx_ := fx_.gr o40 (fun k e => (.inr (.inr (.inr (.inr (.inr (.inl e))))))) (xx_or1 (xx_or1 (xx_or1 (xx_or1 (xx_or1 (xx_re (Fr.of_or q41) xx_id))))))
  replace f_v33_2 := f_v33_2.gr o40 (fun k e => (.inr (.inr (.inr (.inr (.inr (.inl e))))))) (xx_or1 (xx_or1 (xx_or1 (xx_or1 (xx_or1 (xx_re (Fr.of_or q41) xx_id))))))
  have nq2 := nqs nq_r_oc (Fr.of_or q41) a20.lt
  replace a20 := a20.step o40 (fun e => nq_r_oc _ e rfl)
  replace nq_r_oc := nq2
  clear nq2
  have nq2 := nqs nq_r_b26 (Fr.of_or q41) a30.lt
  replace a30 := a30.step o40 (fun e => nq_r_b26 _ e rfl)
  replace nq_r_b26 := nq2
  clear nq2
  have nq2 := nqs nq_r_b25 (Fr.of_or q41) a29.lt
  replace a29 := a29.step o40 (fun e => nq_r_b25 _ e rfl)
  replace nq_r_b25 := nq2
  clear nq2
  have nq2 := nqs nq_r_D_ (Fr.of_or q41) aD_.lt
  replace aD_ := aD_.step o40 (fun e => nq_r_D_ _ e rfl)
  replace nq_r_D_ := nq2
  clear nq2
  have nq2 := nqs nq_r_L_ (Fr.of_or q41) aL_.lt
  replace aL_ := aL_.step o40 (fun e => nq_r_L_ _ e rfl)
  replace nq_r_L_ := nq2
  clear nq2
  have tq := oW.size
  replace oW := oW.tailr o40 q_oW_r (fun _ e => by cases e)
  replace q_oW_r := qtr (Fr.of_or q41) q_oW_r tq
  clear tq
  have tq := o32.size
  replace o32 := o32.tailr o40 q_o32_r (fun k e => (.inr (.inr (.inl e))))
  replace q_o32_r := qtr (Fr.of_or q41) q_o32_r tq
  clear tq
  have tq := oR_.size
  replace oR_ := oR_.tailr o40 q_oR__r (q_T qq_r (fun k e => (.inr (.inl e))) nqD0_r nqL0_r hD_ hL_)
  replace q_oR__r := qtr (Fr.of_or q41) q_oR__r tq
  clear tq
  refine wO (d_store s_ti22 rfl rfl (Ow.one a39) a20 (nb rfl) rfl) ?_
  rintro _ w42 ⟨a43, o44⟩
  replace h1 := h1.stepb o44 (in2 (in2 (in2 (in2 in1))))
  replace fx_ := fx_.stepb o44 (in2 (in2 (in2 (in2 in1))))
  replace f_v33_2 := f_v33_2.stepb o44 (in2 (in2 (in2 (in2 in1))))
  replace a30 := a30.step o44 (fun e => absurd e (Ne.symm n_oc_b26))
  replace a29 := a29.step o44 (fun e => absurd e (Ne.symm n_oc_b25))
  replace aD_ := aD_.step o44 (fun e => absurd e (Ne.symm n_oc_D_))
  replace aL_ := aL_.step o44 (fun e => absurd e (Ne.symm n_oc_L_))
  replace a39 := a39.step o44 (fun x hx e => nq_r_oc x hx e)
  replace oW := oW.tailb o44 g_oW_oc
  replace o32 := o32.tail o44 (fun k _ e => by have : k = oc := e; rw [this]; exact (in2 in1))
  replace oR_ := oR_.tail o44 (fun k _ e => by have : k = oc := e; rw [this]; exact (Or.inl in1))
  refine wF [u1, undef, (Value.slice none 0 0), (ptr oc 0), x, u1, (eN la.length), (Value.bool (!decide (la.length = 48))), (sli o 0 4 4), u1, (Value.func (.func 62) #[] #[(ptr b25 0), (ptr b26 0)]), x, u_r, x, (v33 2), u36, undef, undef] ?_
  refine wD ?_
  refine inb_n ?_
  refine ⟨oR_, bo38, u36, ?_, ?_, ?_, ?_, ?_, ?_, ?_, ?_, ?_⟩
  ·
   exact o32
  ·
   exact a43
  ·
   exact a30
  ·
   exact a29
  ·
   (try dsimp only)
   all_goals (rw [pgTo_snoc] at a39; rw [List.length_append]; exact a39)
  ·
   exact q_o32_r
  ·
   exact nq_r_b25
  ·
   exact nq_r_D_
  ·
   exact nq_r_L_
 ·
  intro w1_ hI_ aD_
  obtain ⟨bo_r, u_r, o32, a20, a30, a29, a22, qq_r, nq_r_b25, nq_r_D_, nq_r_L_⟩ := hI_
  replace h1 := Ps.re (X' := (Or1 D_ (Or1 b26 (Or1 b25 (Or1 oc (Orq bo_r No)))))) h1 o32 (or1_skip (or1_mono (or1_mono (orq_mono no_any)))) (xx_new (Nat.le_of_eq hD_) (xx_or1 (xx_or1 (xx_or1 (xx_re qq_r xx_id)))))
  replace oW := oW.tail o32 (tl_new g_oW_b25 (tl_new g_oW_oc (tl_q q_oW_r (fun _ e => by cases e) tl_no)))
  replace q_oW_r := qtr qq_r q_oW_r tq_oW
  replace nq_r_oc := nqs nq_r_oc qq_r h_lt_oc
  replace nq_r_b26 := nqs nq_r_b26 qq_r h_lt_b26
  have q_o32_r : Fr bo_r (some o) w23.heap.size := qq_r
  have n_oc_D_ : oc ≠ D_ := by omega
  have n_b26_D_ : b26 ≠ D_ := by omega
  have n_b25_D_ : b25 ≠ D_ := by omega
  have g_oW_D_ : W.heap.size ≤ D_ := by omega
  have g_o32_D_ : w23.heap.size ≤ D_ := by omega
  have hl_ := parts_len 24 la u1
  refine inb_n (tN ?_)
  refine wQ (pL ?_)
  refine wI (d_load (v := u_r) ⟨_, Try.underlying22, rfl⟩ rfl a20 rfl) ?_
  refine wO (d_call (xl := [.tmp 16]) (al := [u_r]) Try.func41 kr rfl rfl rfl (cloneB_ok (pgTo la (partsV 24 la u1).length) u_r _ (Ps.no (a22.seq (X := No) (fun _ _ h => h))) (by have := pgTo_len la ((partsV 24 la u1).length); first | omega | (simp; done) | (simp; omega)))) ?_
  rintro u47 w45 f48
  obtain ⟨bo49, f48, g50, o46⟩ := f48
  have nq_r2_oc := nq_new g50 a20.lt
  have nq_r2_b26 := nq_new g50 a30.lt
  have nq_r2_b25 := nq_new g50 a29.lt
  have nq_r2_D_ := nq_new g50 aD_.lt
  have nqq_r_r2 := nqq_new g50 a22.lts
  have q_oW_r2 := qnew g50 oW.size
  have q_o32_r2 := qnew g50 o32.size
  replace h1 := h1.newq o46 g50
  replace a20 := a20.step0 o46
  replace a30 := a30.step0 o46
  replace a29 := a29.step0 o46
  replace aD_ := aD_.step0 o46
  replace a22 := a22.step0 o46
  replace oW := oW.tail0 o46
  replace o32 := o32.tail0 o46
  refine wI (d_assign rfl) ?_
  refine wD (tN ?_)
  refine wpIn_ret ?_
  refine leave (marks_ok aD_) (fun w51 o52 => ⟨res1 Try.results16 rfl, ?_⟩)
  replace o52 := only_mem o52
  replace h1 := h1.stepb o52 (inq in1)
  replace a20 := a20.step o52 (fun e => absurd e n_oc_D_)
  replace a30 := a30.step o52 (fun e => absurd e n_b26_D_)
  replace a29 := a29.step o52 (fun e => absurd e n_b25_D_)
  replace a22 := a22.step o52 (fun x hx e => nq_r_D_ x hx e)
  replace f48 := f48.step o52 (fun x hx e => nq_r2_D_ x hx e)
  replace oW := oW.tailb o52 g_oW_D_
  replace o32 := o32.tailb o52 g_o32_D_
  exact ROw.mk_ f48 (pgTo_done c0 u1) q_oW_r2 oW
 ·
  intro _ _ _ _ h _; exact h.elim
theorem pageDecode_ok (la : List UInt8) (u1 : Value) (W : World) (h1 : Ps No (Seq kB la u1) W) (g1 : la.length ≤ 1048576) :
    CW Try.prog 21 #[u1] W (Rt (RPg (pgD la).1 (pgD la).2 W)) := by
 have oW : Only No W W := Only.refl _ _
 refine enter (al := [u1]) (k := 35) (l := ([u1] ++ (us 35))) Try.func21 rfl Try.ntmps21 rfl rfl ?_
 refine wQ (pL ?_)
 refine wO (d_alloc s_ti32 rfl) ?_
 rintro _ w11 ⟨st, rfl, g12, a13, o14⟩
 have g_oW_st : W.heap.size ≤ st := Nat.le_trans oW.size g12
 replace h1 := h1.new o14 g12
 replace oW := oW.tail0 o14
 refine wD (tN (wQ (wQ (pL ?_))))
 refine wI (d_move rfl) ?_
 refine wI (d_lenS rfl Try.underlying22 rfl h1) ?_
 refine wI (n_neq (a := la.length) (b := 60) rfl rfl rfl) ?_
 refine wD (tN ?_)
 refine cond_un rfl (fun c0 => ?_) (fun c0 => ?_)
 ·
  refine wQ (pL ?_)
  refine wI (d_buildS (pl := [(0, 1), (1, 1)]) (zs := [(eN 0), (Value.slice none 0 0)]) (cs := [(eN 1), (Value.slice none 0 0)]) Try.underlying32 s_ti32 ⟨_, _, _, _, rfl, s_ti3, ⟨_, _, _, _, rfl, s_ti22, rfl⟩⟩ rfl (parts_cons (vs := [(eN 1)]) (cells_of (v := (eN 1)) rfl rfl) parts_nil) rfl) ?_
  refine wO (d_storeAg (cs' := [(eN 1), (Value.slice none 0 0)]) s_ti32 rfl rfl rfl (oc_cons rfl (oc_cons rfl oc_nil)) a13 (by decide) rfl) ?_
  rintro _ w15 ⟨a16, o17⟩
  replace h1 := h1.stepb o17 in1
  replace oW := oW.tailb o17 g_oW_st
  refine wD (tN ?_)
  refine wpIn_ret ?_
  refine then_r ?_
  refine leave0 (v := (Value.agg #[(eN 1), (Value.slice none 0 0)])) (resC Try.results21 ⟨_, Try.underlying32, rfl⟩ s_ti32 rfl a16 rfl) ?_
  exact RPg.of (pgD_size c0) seq_nil oW
 refine wK (tN (wQ (wQ (pL ?_))))
 refine wI (d_move rfl) ?_
 refine wO (d_sliceS (xs := la) (ys := (la.take 4)) (l := 0) (h := 4) Try.underlying22 s_ti5 rfl h1 Bd.none (Bd.some (l := 4) (k := .i64) rfl) oo oo (by simp)) ?_
 rintro u18 _ ⟨f19, rfl⟩
 refine wO (d_call (xl := [.tmp 13]) (al := [u18]) Try.func44 kr rfl rfl rfl (bitsOnesN_ok (la.take 4) u18 _ (Ps.no f19) fo)) ?_
 rintro _ w20 ⟨rfl, o21⟩
 replace h1 := h1.step0 o21
 replace f19 := f19.step0 o21
 replace a13 := a13.step0 o21
 replace oW := oW.tail0 o21
 refine wF ([u1, undef, (ptr st 0)] ++ (us 5 ++ [u1, (eN la.length), (Value.bool (!decide (la.length = 60))), undef, u1, u18, (eN (onesN (la.take 4)))] ++ (us 21))) ?_
 refine wI (n_gtr (a := (onesN (la.take 4))) (b := 16) rfl rfl rfl) ?_
 refine wD (tN ?_)
 refine cond_if rfl (fun c1 => ?_) (fun c1 => ?_)
 ·
  refine wQ (pL ?_)
  refine wI (d_buildS (pl := [(0, 1), (1, 1)]) (zs := [(eN 0), (Value.slice none 0 0)]) (cs := [(eN 0), (Value.slice none 0 0)]) Try.underlying32 s_ti32 ⟨_, _, _, _, rfl, s_ti3, ⟨_, _, _, _, rfl, s_ti22, rfl⟩⟩ rfl (parts_cons (vs := [(eN 0)]) (cells_of (v := (eN 0)) rfl rfl) parts_nil) rfl) ?_
  refine wO (d_storeAg (cs' := [(eN 0), (Value.slice none 0 0)]) s_ti32 rfl rfl rfl (oc_cons rfl (oc_cons rfl oc_nil)) a13 (by decide) rfl) ?_
  rintro _ w22 ⟨a23, o24⟩
  replace h1 := h1.stepb o24 in1
  replace f19 := f19.stepb o24 in1
  replace oW := oW.tailb o24 g_oW_st
  refine wD (tN ?_)
  refine forget (fun zf25 => ([(zf25 0), (zf25 1), (ptr st 0)] ++ (zs zf25 3 33))) kr (fun zf25 => ?_)
  refine wpIn_ret ?_
  refine then_r ?_
  refine leave0 (v := (Value.agg #[(eN 0), (Value.slice none 0 0)])) (resC Try.results21 ⟨_, Try.underlying32, rfl⟩ s_ti32 rfl a23 rfl) ?_
  exact RPg.of (pgD_blank c0 c1) seq_nil oW
 refine wK (tN (wQ ?_))
 refine wp_eq (l' := ([u1, undef, (ptr st 0)] ++ (us 5 ++ [u1, (eN la.length), (Value.bool (!decide (la.length = 60))), undef, u1, u18, (eN (onesN (la.take 4))), (Value.bool (decide (16 < (onesN (la.take 4)))))] ++ (us 20)))) rfl ?_
 refine pL ?_
 refine wO (d_alloc s_ti22 rfl) ?_
 rintro _ w26 ⟨oc, rfl, g27, a28, o29⟩
 have n_st_oc : st ≠ oc := a13.ne g27
 have g_oW_oc : W.heap.size ≤ oc := Nat.le_trans oW.size g27
 replace h1 := h1.new o29 g27
 replace f19 := f19.new o29 g27
 replace a13 := a13.step0 o29
 replace oW := oW.tail0 o29
 refine wF ([u1, undef, (ptr st 0), (ptr oc 0), undef, undef, undef, undef, u1, (eN la.length), (Value.bool (!decide (la.length = 60))), undef, u1, u18, (eN (onesN (la.take 4))), (Value.bool (decide (16 < (onesN (la.take 4)))))] ++ (us 20)) ?_
 refine wD ?_
 have a30 : Ow 5 1 none (Value.slice none 0 0) ([] : List (UInt8)).length (([] : List (UInt8)).map eB) w26 := Ow.nil _ _ _
 have nq_r_st : ∀ x, (none : Option Nat) = some x → ¬ x = st := fun x e => by cases e
 have nq_r_oc : ∀ x, (none : Option Nat) = some x → ¬ x = oc := fun x e => by cases e
 have q_oW_r : Fr none none W.heap.size := Fr.none
 replace h1 := h1.qnone
 replace f19 := f19.qnone
 refine tN (wQ (wQ (pL ?_)))
 refine wI (d_move rfl) ?_
 have f31 : Ps _ (Seq kB (la.drop 4) (subv 1 4 la.length u1)) _ := subv_seq (q := kB) (l := 4) (h := la.length) (ys := (la.drop 4)) h1 oo oo (by first | (rw [List.take_length]; done) | (simp; done))
 refine wI (d_subv (q := kB) (xs := la) (l := 4) (h := la.length) Try.underlying22 s_ti5 rfl h1 (Bd.some (l := 4) (k := .i64) rfl) Bd.none oo oo) ?_
 refine wO (d_call (xl := [.tmp 18, .const (.int .i64 28)]) (al := [(subv 1 4 la.length u1), (eN 28)]) Try.func39 kr rfl rfl rfl (pageParts_ok (la.drop 4) 28 (subv 1 4 la.length u1) _ (Ps.no f31))) ?_
 rintro _ w32 ⟨b34, b35, rfl, g36, g37, n40, a38, a39, o33⟩
 have n_st_b34 : st ≠ b34 := a13.ne g36
 have n_oc_b34 : oc ≠ b34 := a28.ne g36
 have nq_r_b34 : ∀ x, none = some x → ¬ x = b34 := fun x hx e => by have := a30.lts x hx; omega
 have g_oW_b34 : W.heap.size ≤ b34 := Nat.le_trans oW.size g36
 replace h1 := Ps.less (Y := Or1 b34 (Orq none (Or1 oc (Or1 st No)))) h1 (xx_new g36 xx_id)
 replace f19 := Ps.less (Y := Or1 b34 (Orq none (Or1 oc (Or1 st No)))) f19 (xx_new g36 xx_id)
 replace f31 := Ps.less (Y := Or1 b34 (Orq none (Or1 oc (Or1 st No)))) f31 (xx_new g36 xx_id)
 have n_b34_b35 : b34 ≠ b35 := n40
 have n_st_b35 : st ≠ b35 := a13.ne g37
 have n_oc_b35 : oc ≠ b35 := a28.ne g37
 have nq_r_b35 : ∀ x, none = some x → ¬ x = b35 := fun x hx e => by have := a30.lts x hx; omega
 have g_oW_b35 : W.heap.size ≤ b35 := Nat.le_trans oW.size g37
 replace h1 := h1.new o33 g37
 replace f19 := f19.new o33 g37
 replace f31 := f31.new o33 g37
 replace a13 := a13.step0 o33
 replace a28 := a28.step0 o33
 replace a30 := a30.step0 o33
 replace oW := oW.tail0 o33
 refine wD (tN ?_)
 refine forget (fun zf41 => ([(zf41 0), (zf41 1), (ptr st 0), (ptr oc 0)] ++ (zs zf41 4 15 ++ [(Value.func (.func 62) #[] #[(ptr b34 0), (ptr b35 0)]), undef] ++ (zs zf41 21 15)))) kr (fun zf41 => ?_)
 refine wB ?_
 have h_lt_st := a13.lt
 have h_lt_oc := a28.lt
 have h_lt_b35 := a39.lt
 have h_lt_b34 := a38.lt
 have h_lts_r := a30.lts
 have tq_oW := oW.size
 have nO_b34 : ¬ (Orq none (Or1 oc (Or1 st No))) b34 := (not_orq (fun x hx e => nq_r_b34 x hx e) (not_or1 (Ne.symm n_oc_b34) (not_or1 (Ne.symm n_st_b34) not_no)))
 have nO_b35 : ¬ (Orq none (Or1 oc (Or1 st No))) b35 := (not_orq (fun x hx e => nq_r_b35 x hx e) (not_or1 (Ne.symm n_oc_b35) (not_or1 (Ne.symm n_st_b35) not_no)))
 obtain ⟨D_, hD_⟩ : ∃ D_, w32.heap.size = D_ := ⟨_, rfl⟩
 obtain ⟨L_, hL_⟩ : ∃ L_, w32.heap.size + 1 = L_ := ⟨_, rfl⟩
 refine range_ (encs := (fun x => [x])) (Pv := (Or1 b34 No)) (O := (Orq none (Or1 oc (Or1 st No)))) (xs := (partsV 28 (la.drop 4) (subv 1 4 la.length u1))) (D := D_) (L := L_) (rs := []) hD_ hL_ rfl Try.func62 kr rfl (iter_pageParts 28 (la.drop 4) (subv 1 4 la.length u1) b34 b35 (by decide) fo a38 a39 n_b34_b35 nO_b34 nO_b35 f31 (or1_skip (or1_skip (orq_mono (or1_mono (or1_mono no_any))))) (in2 in1)) (fun k t => by simp only [Or1, No, or_false] at t; subst t; exact ⟨h_lt_b34, nO_b34⟩) (fun _ => rfl) (lt_orq h_lts_r (lt_or1 h_lt_oc (lt_or1 h_lt_st lt_no))) (fun (pre : List Value) (w_ : World) => ∃ (bo_r : Option Nat) (u_r : Value), (∀ i, i < pre.length → decB (pgW la i) = true) ∧ Only (Or1 b34 (Orq none (Or1 oc (Or1 st No)))) w32 w_ ∧ Arr 32 st [(eN 0), (Value.slice none 0 0)] w_ ∧ Arr 22 oc [u_r] w_ ∧ Arr 3 b35 [(eN 28)] w_ ∧ Dead b34 w_ ∧ Ow 5 1 bo_r u_r (pdTo la pre.length).length ((pdTo la pre.length).map eB) w_ ∧ Fr bo_r none w32.heap.size ∧ (∀ x, bo_r = some x → ¬ x = b34) ∧ (∀ x, bo_r = some x → ¬ x = D_) ∧ (∀ x, bo_r = some x → ¬ x = L_)) (fun c_ (pre : List Value) (w_ : World) => c_ = Code.ret ∧ (∃ (bo_r : Option Nat) (u_r : Value), (decB (pgW la (pre.length - 1)) = false) ∧ (pre.length - 1 < 2) ∧ Only (Or1 b34 (Orq none (Or1 oc (Or1 st No)))) w32 w_ ∧ Arr 32 st [(eN 1), (Value.slice none 0 0)] w_ ∧ Arr 22 oc [u_r] w_ ∧ Arr 3 b35 [(eN 28)] w_ ∧ Dead b34 w_ ∧ Ow 5 1 bo_r u_r (pdTo la (pre.length - 1)).length ((pdTo la (pre.length - 1)).map eB) w_ ∧ Fr bo_r none w32.heap.size ∧ (∀ x, bo_r = some x → ¬ x = b34) ∧ (∀ x, bo_r = some x → ¬ x = D_) ∧ (∀ x, bo_r = some x → ¬ x = L_))) ?_ ?_ ?_ ?_ ?_ ?_
 ·
  rintro pre w_ w2_ ⟨bo_r, u_r, hok, o42, a13, a28, a39, a38, a30, qq_r, nq_r_b34, nq_r_D_, nq_r_L_⟩ ho_
  exact ⟨bo_r, u_r, hok, o42.tail ho_ (stab_tl hD_ hL_ (fun k t => by simp only [Or1, No, or_false] at t; subst t; exact in1)), a13.step ho_ (stab_b hD_ hL_ h_lt_st (not_or1 n_st_b34 not_no)), a28.step ho_ (stab_b hD_ hL_ h_lt_oc (not_or1 n_oc_b34 not_no)), a39.step ho_ (stab_b hD_ hL_ h_lt_b35 (not_or1 (Ne.symm n_b34_b35) not_no)), Nat.lt_of_lt_of_le a38 ho_.size, a30.step ho_ (stab_q nq_r_D_ nq_r_L_ (fun b hb => not_or1 (nq_r_b34 b hb) not_no)), qq_r, nq_r_b34, nq_r_D_, nq_r_L_⟩
 ·
  rintro c_ pre w_ w2_ ⟨hc_, ⟨bo_r, u_r, hbad, hb2, o42, a13, a28, a39, a38, a30, qq_r, nq_r_b34, nq_r_D_, nq_r_L_⟩⟩ ho_
  exact ⟨hc_, ⟨bo_r, u_r, hbad, hb2, o42.tail ho_ (stab_tl hD_ hL_ (fun k t => by simp only [Or1, No, or_false] at t; subst t; exact in1)), a13.step ho_ (stab_b hD_ hL_ h_lt_st (not_or1 n_st_b34 not_no)), a28.step ho_ (stab_b hD_ hL_ h_lt_oc (not_or1 n_oc_b34 not_no)), a39.step ho_ (stab_b hD_ hL_ h_lt_b35 (not_or1 (Ne.symm n_b34_b35) not_no)), Nat.lt_of_lt_of_le a38 ho_.size, a30.step ho_ (stab_q nq_r_D_ nq_r_L_ (fun b hb => not_or1 (nq_r_b34 b hb) not_no)), qq_r, nq_r_b34, nq_r_D_, nq_r_L_⟩⟩
 ·
  refine ⟨none, (Value.slice none 0 0), ?_, ?_, ?_, ?_, ?_, ?_, ?_, ?_, ?_, ?_, ?_⟩
  ·
   exact fun i hi => absurd hi (Nat.not_lt_zero _)
  ·
   exact Only.refl _ _
  ·
   exact a13
  ·
   exact a28
  ·
   exact a39
  ·
   exact a38.lt
  ·
   (try dsimp only)
   all_goals (rw [← pdTo_zero la] at a30; exact a30)
  ·
   exact Fr.same
  ·
   exact nq_r_b34
  ·
   (try dsimp only)
   all_goals (exact fun x hx e => by have := h_lts_r x hx; omega)
  ·
   (try dsimp only)
   all_goals (exact fun x hx e => by have := h_lts_r x hx; omega)
 ·
  intro pre x w1_ hpx_ hI_ hL1_
  obtain ⟨bo_r, u_r, hok, o42, a13, a28, a39, a38, a30, qq_r, nq_r_b34, nq_r_D_, nq_r_L_⟩ := hI_
  replace h1 := Ps.re (X' := (Or1 L_ (Or1 D_ (Or1 b35 (Or1 b34 (Orq bo_r (Or1 oc (Or1 st No)))))))) h1 o42 (or1_skip (or1_mono (orq_mono (or1_mono (or1_mono no_any))))) (xx_new oo (xx_new (Nat.le_of_eq hD_) (xx_or1 (xx_or1 (xx_re qq_r (xx_or1 (xx_or1 xx_id)))))))
  replace f19 := Ps.re (X' := (Or1 L_ (Or1 D_ (Or1 b35 (Or1 b34 (Orq bo_r (Or1 oc (Or1 st No)))))))) f19 o42 (or1_skip (or1_mono (orq_mono (or1_mono (or1_mono no_any))))) (xx_new oo (xx_new (Nat.le_of_eq hD_) (xx_or1 (xx_or1 (xx_re qq_r (xx_or1 (xx_or1 xx_id)))))))
  replace f31 := Ps.re (X' := (Or1 L_ (Or1 D_ (Or1 b35 (Or1 b34 (Orq bo_r (Or1 oc (Or1 st No)))))))) f31 o42 (or1_skip (or1_mono (orq_mono (or1_mono (or1_mono no_any))))) (xx_new oo (xx_new (Nat.le_of_eq hD_) (xx_or1 (xx_or1 (xx_re qq_r (xx_or1 (xx_or1 xx_id)))))))
  replace oW := oW.tail o42 (tl_new g_oW_b34 (tl_q q_oW_r (fun _ e => by cases e) (tl_new g_oW_oc (tl_new g_oW_st tl_no))))
  replace q_oW_r := qtr qq_r q_oW_r tq_oW
  replace nq_r_st := nqs nq_r_st qq_r h_lt_st
  replace nq_r_oc := nqs nq_r_oc qq_r h_lt_oc
  replace nq_r_b35 := nqs nq_r_b35 qq_r h_lt_b35
  have q_o42_r : Fr bo_r none w32.heap.size := qq_r
  have n_st_D_ : st ≠ D_ := by omega
  have n_oc_D_ : oc ≠ D_ := by omega
  have n_b35_D_ : b35 ≠ D_ := by omega
  have n_b34_D_ : b34 ≠ D_ := by omega
  have g_oW_D_ : W.heap.size ≤ D_ := by omega
  have g_o42_D_ : w32.heap.size ≤ D_ := by omega
  have n_st_L_ : st ≠ L_ := by omega
  have n_oc_L_ : oc ≠ L_ := by omega
  have n_b35_L_ : b35 ≠ L_ := by omega
  have n_b34_L_ : b34 ≠ L_ := by omega
  have g_oW_L_ : W.heap.size ≤ L_ := by omega
  have g_o42_L_ : w32.heap.size ≤ L_ := by omega
  have n_D__L_ : D_ ≠ L_ := by omega
  have aL_ : Dead L_ w1_ := hL1_
  have aD_ : Dead D_ w1_ := by unfold Dead; omega
  refine wp_eq (l' := ([(zf41 0), (zf41 1), (ptr st 0), (ptr oc 0)] ++ (zs zf41 4 15 ++ [(Value.func (.func 62) #[] #[(ptr b34 0), (ptr b35 0)]), x] ++ (zs zf41 21 15)))) kr ?_
  refine pL ?_
  refine wI (d_assign rfl) ?_
  refine wD (tN ?_)
  refine ⟨Only.refl _ _, fun w2_ oL_ _ => ?_⟩
  replace h1 := h1.stepb oL_ in1
  replace f19 := f19.stepb oL_ in1
  replace f31 := f31.stepb oL_ in1
  replace a13 := a13.step oL_ (fun e => absurd e n_st_L_)
  replace a28 := a28.step oL_ (fun e => absurd e n_oc_L_)
  replace a39 := a39.step oL_ (fun e => absurd e n_b35_L_)
  replace a38 := a38.step oL_ (fun e => absurd e n_b34_L_)
  replace aD_ := aD_.step oL_ (fun e => absurd e n_D__L_)
  replace a30 := a30.step oL_ (fun x hx e => nq_r_L_ x hx e)
  replace oW := oW.tailb oL_ g_oW_L_
  replace o42 := o42.tailb oL_ g_o42_L_
  replace aL_ : Dead L_ w2_ := Nat.lt_of_lt_of_le aL_ oL_.size
  have oR_ : Only (fun k => (Orq none (Or1 oc (Or1 st No))) k ∨ L_ < k) w2_ w2_ := Only.refl _ _
  have nqD0_r := nq_r_D_
  have nqL0_r := nq_r_L_
  have q_oR__r : Fr bo_r bo_r w2_.heap.size := Fr.same
  obtain ⟨hp_, hx_⟩ := parts_in hpx_
  have fx_ := pv_seq (n := 28) (by decide) f31 pre.length hp_
  rw [← hx_] at fx_
  refine wB (wQ ?_)
  refine wp_eq (l' := ([(zf41 0), (zf41 1), (ptr st 0), (ptr oc 0), x] ++ (zs zf41 5 14 ++ [(Value.func (.func 62) #[] #[(ptr b34 0), (ptr b35 0)]), x] ++ (zs zf41 21 15)))) rfl ?_
  refine pL ?_
  refine wI (d_move rfl) ?_
  refine wO (d_call (xl := [.tmp 22]) (al := [x]) Try.func45 kr rfl rfl rfl (bchDecode_ok (pgW la pre.length) x _ (Ps.no fx_) (by have := pgW_len la pre.length; first | omega | (simp; done) | (simp; omega)))) ?_
  rintro _ w43 ⟨u45, rfl, f46, o44⟩
  replace f46 := f46.less (Y := (Or1 L_ (Or1 D_ (Or1 b35 (Or1 b34 (Orq bo_r (Or1 oc (Or1 st (Old W.heap.size))))))))) (or1_old aL_.lt (or1_old aD_.lt (or1_old a39.lt (or1_old a38.lt (orq_old a30.lts (or1_old a28.lt (or1_old a13.lt (old_old oW.size))))))))
  replace h1 := h1.step0 o44
  replace f19 := f19.step0 o44
  replace f31 := f31.step0 o44
  replace fx_ := fx_.step0 o44
  replace a13 := a13.step0 o44
  replace a28 := a28.step0 o44
  replace a39 := a39.step0 o44
  replace a38 := a38.step0 o44
  replace aD_ := aD_.step0 o44
  replace aL_ := aL_.step0 o44
  replace a30 := a30.step0 o44
  replace oW := oW.tail0 o44
  replace o42 := o42.tail0 o44
  replace oR_ := oR_.tail0 o44
  refine wI (d_move rfl) ?_
  refine wI (d_extract (v := u45) rfl rfl) ?_
  refine wI (d_extract (v := (eN (decN (pgW la pre.length)))) rfl rfl) ?_
  refine wI (d_extract (v := (Value.bool (decB (pgW la pre.length)))) rfl rfl) ?_
  refine wI (d_assign rfl) ?_
  refine wF ([(zf41 0), (zf41 1), (ptr st 0), (ptr oc 0), x, u45] ++ (zs zf41 6 13 ++ [(Value.func (.func 62) #[] #[(ptr b34 0), (ptr b35 0)]), x, (Value.tuple #[u45, (eN (decN (pgW la pre.length))), (Value.bool (decB (pgW la pre.length)))]), x, (Value.tuple #[u45, (eN (decN (pgW la pre.length))), (Value.bool (decB (pgW la pre.length)))]), u45, (eN (decN (pgW la pre.length))), (Value.bool (decB (pgW la pre.length)))] ++ (zs zf41 27 9))) ?_
  refine wI (d_assign rfl) ?_
  refine wI (d_assign rfl) ?_
  refine wF ([(zf41 0), (zf41 1), (ptr st 0), (ptr oc 0), x, u45, (eN (decN (pgW la pre.length))), (Value.bool (decB (pgW la pre.length)))] ++ (zs zf41 8 11 ++ [(Value.func (.func 62) #[] #[(ptr b34 0), (ptr b35 0)]), x, (Value.tuple #[u45, (eN (decN (pgW la pre.length))), (Value.bool (decB (pgW la pre.length)))]), x, (Value.tuple #[u45, (eN (decN (pgW la pre.length))), (Value.bool (decB (pgW la pre.length)))]), u45, (eN (decN (pgW la pre.length))), (Value.bool (decB (pgW la pre.length)))] ++ (zs zf41 27 9))) ?_
  refine wD (tN ?_)
  refine forget (fun zf51 => ([(zf51 0), (zf51 1), (ptr st 0), (ptr oc 0), (zf51 4), u45, (zf51 6), (Value.bool (decB (pgW la pre.length)))] ++ (zs zf51 8 11 ++ [(Value.func (.func 62) #[] #[(ptr b34 0), (ptr b35 0)]), x] ++ (zs zf51 21 15)))) kr (fun zf51 => ?_)
  refine wQ (wQ (pL ?_))
  refine wI (d_move rfl) ?_
  refine wI (d_not rfl rfl) ?_
  refine wF ([(zf51 0), (zf51 1), (ptr st 0), (ptr oc 0), (zf51 4), u45, (zf51 6), (Value.bool (decB (pgW la pre.length)))] ++ (zs zf51 8 11 ++ [(Value.func (.func 62) #[] #[(ptr b34 0), (ptr b35 0)]), x] ++ (zs zf51 21 6 ++ [(Value.bool (decB (pgW la pre.length))), (Value.bool (!(decB (pgW la pre.length))))] ++ (zs zf51 29 7)))) ?_
  refine wD (tN ?_)
  refine cond_b rfl (fun k0 => ?_) (fun k0 => ?_)
  ·
   refine wQ (pL ?_)
   refine wI (d_buildS (pl := [(0, 1), (1, 1)]) (zs := [(eN 0), (Value.slice none 0 0)]) (cs := [(eN 1), (Value.slice none 0 0)]) Try.underlying32 s_ti32 ⟨_, _, _, _, rfl, s_ti3, ⟨_, _, _, _, rfl, s_ti22, rfl⟩⟩ rfl (parts_cons (vs := [(eN 1)]) (cells_of (v := (eN 1)) rfl rfl) parts_nil) rfl) ?_
   refine wO (d_storeAg (cs' := [(eN 1), (Value.slice none 0 0)]) s_ti32 rfl rfl rfl (oc_cons rfl (oc_cons rfl oc_nil)) a13 (by decide) rfl) ?_
   rintro _ w52 ⟨a53, o54⟩
   replace h1 := h1.stepb o54 (in2 (in2 (in2 (in2 (inq (in2 in1))))))
   replace f19 := f19.stepb o54 (in2 (in2 (in2 (in2 (inq (in2 in1))))))
   replace f31 := f31.stepb o54 (in2 (in2 (in2 (in2 (inq (in2 in1))))))
   replace fx_ := fx_.stepb o54 (in2 (in2 (in2 (in2 (inq (in2 in1))))))
   replace f46 := f46.stepb o54 (in2 (in2 (in2 (in2 (inq (in2 in1))))))
   replace a28 := a28.step o54 (fun e => absurd e (Ne.symm n_st_oc))
   replace a39 := a39.step o54 (fun e => absurd e (Ne.symm n_st_b35))
   replace a38 := a38.step o54 (fun e => absurd e (Ne.symm n_st_b34))
   replace aD_ := aD_.step o54 (fun e => absurd e (Ne.symm n_st_D_))
   replace aL_ := aL_.step o54 (fun e => absurd e (Ne.symm n_st_L_))
   replace a30 := a30.step o54 (fun x hx e => nq_r_st x hx e)
   replace oW := oW.tailb o54 g_oW_st
   replace o42 := o42.tail o54 (fun k _ e => by have : k = st := e; rw [this]; exact (in2 (inq (in2 in1))))
   replace oR_ := oR_.tail o54 (fun k _ e => by have : k = st := e; rw [this]; exact (Or.inl (inq (in2 in1))))
   refine wF ([(zf51 0), (zf51 1), (ptr st 0), (ptr oc 0), (zf51 4), u45, (zf51 6), (Value.bool (decB (pgW la pre.length)))] ++ (zs zf51 8 11 ++ [(Value.func (.func 62) #[] #[(ptr b34 0), (ptr b35 0)]), x] ++ (zs zf51 21 6 ++ [(Value.bool (decB (pgW la pre.length))), (Value.bool (!(decB (pgW la pre.length)))), (Value.agg #[(eN 1), (Value.slice none 0 0)])] ++ (zs zf51 30 6)))) ?_
   refine wD (tN ?_)
   refine forget (fun zf55 => ([(zf55 0), (zf55 1), (ptr st 0)] ++ (zs zf55 3 33))) kr (fun zf55 => ?_)
   refine wpIn_ret ?_
   refine then_r (inb_r ?_)
   refine ⟨oR_, rfl, bo_r, u_r, ?_, ?_, ?_, ?_, ?_, ?_, ?_, ?_, ?_, ?_, ?_, ?_⟩
   ·
    (try dsimp only)
    all_goals (rw [List.length_append, List.length_singleton, Nat.add_sub_cancel]; simpa using k0)
   ·
    (try dsimp only)
    all_goals (have : (la.drop 4).length = 56 := (by rw [List.length_drop, c0]); rw [List.length_append, List.length_singleton, Nat.add_sub_cancel]; omega)
   ·
    exact o42
   ·
    exact a53
   ·
    exact a28
   ·
    exact a39
   ·
    exact a38
   ·
    (try dsimp only)
    all_goals (rw [List.length_append, List.length_singleton, Nat.add_sub_cancel]; exact a30)
   ·
    exact q_o42_r
   ·
    exact nq_r_b34
   ·
    exact nq_r_D_
   ·
    exact nq_r_L_
  refine wK (tN (pL ?_))
  refine wI (d_load (v := u_r) ⟨_, Try.underlying22, rfl⟩ rfl a28 rfl) ?_
  refine wI (d_move rfl) ?_
  refine wO (d_append Try.underlying22 Try.underlying22 s_ti5 rfl rfl rfl a30 (SrcV.of_seq f46 (fun _ => rfl)) (by have := pdTo_len la pre.length; have := decD_len (pgW la pre.length); have : (la.drop 4).length = 56 := (by rw [List.length_drop, c0]); omega) (by have := pdTo_len la pre.length; have := decD_len (pgW la pre.length); have : (la.drop 4).length = 56 := (by rw [List.length_drop, c0]); omega) rfl) ?_
  rintro u56 w57 ⟨bo58, a59, o60, q61⟩
  replace a59 : Ow 5 1 bo58 u56 ((pdTo la pre.length) ++ (decD (pgW la pre.length))).length (((pdTo la pre.length) ++ (decD (pgW la pre.length))).map eB) w57 := by rw [List.length_append, List.map_append]; exact a59
  replace h1 := h1.gr o60 (fun k e => (.inr (.inr (.inr (.inr (.inl e)))))) (xx_or1 (xx_or1 (xx_or1 (xx_or1 (xx_re (Fr.of_or q61) (xx_or1 (xx_or1 xx_id)))))))
  replace f19 := f19.gr o60 (fun k e => (.inr (.inr (.inr (.inr (.inl e)))))) (xx_or1 (xx_or1 (xx_or1 (xx_or1 (xx_re (Fr.of_or q61) (xx_or1 (xx_or1 xx_id)))))))
  replace f31 := f31.gr o60 (fun k e => (.inr (.inr (.inr (.inr (.inl e)))))) (xx_or1 (xx_or1 (xx_or1 (xx_or1 (xx_re (Fr.of_or q61) (xx_or1 (xx_or1 xx_id)))))))
  replace fx_ := fx_.gr o60 (fun k e => (.inr (.inr (.inr (.inr (.inl e)))))) (xx_or1 (xx_or1 (xx_or1 (xx_or1 (xx_re (Fr.of_or q61) (xx_or1 (xx_or1 xx_id)))))))
  replace f46 := f46.gr o60 (fun k e => (.inr (.inr (.inr (.inr (.inl e)))))) (xx_or1 (xx_or1 (xx_or1 (xx_or1 (xx_re (Fr.of_or q61) (xx_or1 (xx_or1 xx_id)))))))
  have nq2 := nqs nq_r_st (Fr.of_or q61) a13.lt
  replace a13 := a13.step o60 (fun e => nq_r_st _ e rfl)
  replace nq_r_st := nq2
  clear nq2
  have nq2 := nqs nq_r_oc (Fr.of_or q61) a28.lt
  replace a28 := a28.step o60 (fun e => nq_r_oc _ e rfl)
  replace nq_r_oc := nq2
  clear nq2
  have nq2 := nqs nq_r_b35 (Fr.of_or q61) a39.lt
  replace a39 := a39.step o60 (fun e => nq_r_b35 _ e rfl)
  replace nq_r_b35 := nq2
  clear nq2
  have nq2 := nqs nq_r_b34 (Fr.of_or q61) a38.lt
  replace a38 := a38.step o60 (fun e => nq_r_b34 _ e rfl)
  replace nq_r_b34 := nq2
  clear nq2
  have nq2 := nqs nq_r_D_ (Fr.of_or q61) aD_.lt
  replace aD_ := aD_.step o60 (fun e => nq_r_D_ _ e rfl)
  replace nq_r_D_ := nq2
  clear nq2
  have nq2 := nqs nq_r_L_ (Fr.of_or q61) aL_.lt
  replace aL_ := aL_.step o60 (fun e => nq_r_L_ _ e rfl)
  replace nq_r_L_ := nq2
  clear nq2
  have tq := oW.size
  replace oW := oW.tailr o60 q_oW_r (fun _ e => by cases e)
  replace q_oW_r := qtr (Fr.of_or q61) q_oW_r tq
  clear tq
  have tq := o42.size
  replace o42 := o42.tailr o60 q_o42_r (fun k e => (.inr (.inl e)))
  replace q_o42_r := qtr (Fr.of_or q61) q_o42_r tq
  clear tq
  have tq := oR_.size
  replace oR_ := oR_.tailr o60 q_oR__r (q_T qq_r (fun k e => (.inl e)) nqD0_r nqL0_r hD_ hL_)
  replace q_oR__r := qtr (Fr.of_or q61) q_oR__r tq
  clear tq
  refine wO (d_store s_ti22 rfl rfl (Ow.one a59) a28 (nb rfl) rfl) ?_
  rintro _ w62 ⟨a63, o64⟩
  replace h1 := h1.stepb o64 (in2 (in2 (in2 (in2 (inq in1)))))
  replace f19 := f19.stepb o64 (in2 (in2 (in2 (in2 (inq in1)))))
  replace f31 := f31.stepb o64 (in2 (in2 (in2 (in2 (inq in1)))))
  replace fx_ := fx_.stepb o64 (in2 (in2 (in2 (in2 (inq in1)))))
  replace f46 := f46.stepb o64 (in2 (in2 (in2 (in2 (inq in1)))))
  replace a13 := a13.step o64 (fun e => absurd e n_st_oc)
  replace a39 := a39.step o64 (fun e => absurd e (Ne.symm n_oc_b35))
  replace a38 := a38.step o64 (fun e => absurd e (Ne.symm n_oc_b34))
  replace aD_ := aD_.step o64 (fun e => absurd e (Ne.symm n_oc_D_))
  replace aL_ := aL_.step o64 (fun e => absurd e (Ne.symm n_oc_L_))
  replace a59 := a59.step o64 (fun x hx e => nq_r_oc x hx e)
  replace oW := oW.tailb o64 g_oW_oc
  replace o42 := o42.tail o64 (fun k _ e => by have : k = oc := e; rw [this]; exact (in2 (inq in1)))
  replace oR_ := oR_.tail o64 (fun k _ e => by have : k = oc := e; rw [this]; exact (Or.inl (inq in1)))
  refine wF ([(zf51 0), (zf51 1), (ptr st 0), (ptr oc 0), (zf51 4), u45, (zf51 6), (Value.bool (decB (pgW la pre.length)))] ++ (zs zf51 8 11 ++ [(Value.func (.func 62) #[] #[(ptr b34 0), (ptr b35 0)]), x] ++ (zs zf51 21 6 ++ [(Value.bool (decB (pgW la pre.length))), (Value.bool (!(decB (pgW la pre.length)))), (zf51 29), u_r, u45, u56, (zf51 33), (zf51 34), (zf51 35)]))) ?_
  refine wD ?_
  refine inb_n ?_
  refine ⟨oR_, bo58, u56, ?_, ?_, ?_, ?_, ?_, ?_, ?_, ?_, ?_, ?_, ?_⟩
  ·
   (try dsimp only)
   all_goals (exact fun i hi => by rw [List.length_append, List.length_singleton] at hi; exact (Nat.lt_succ_iff_lt_or_eq.1 hi).elim (hok i) (fun e => by rw [e]; simpa using k0))
  ·
   exact o42
  ·
   exact a13
  ·
   exact a63
  ·
   exact a39
  ·
   exact a38
  ·
   (try dsimp only)
   all_goals (rw [pdTo_snoc] at a59; rw [List.length_append]; exact a59)
  ·
   exact q_o42_r
  ·
   exact nq_r_b34
  ·
   exact nq_r_D_
  ·
   exact nq_r_L_
 ·
  intro w1_ hI_ aD_
  obtain ⟨bo_r, u_r, hok, o42, a13, a28, a39, a38, a30, qq_r, nq_r_b34, nq_r_D_, nq_r_L_⟩ := hI_
  replace h1 := Ps.re (X' := (Or1 D_ (Or1 b35 (Or1 b34 (Orq bo_r (Or1 oc (Or1 st No))))))) h1 o42 (or1_skip (or1_mono (orq_mono (or1_mono (or1_mono no_any))))) (xx_new (Nat.le_of_eq hD_) (xx_or1 (xx_or1 (xx_re qq_r (xx_or1 (xx_or1 xx_id))))))
  replace f19 := Ps.re (X' := (Or1 D_ (Or1 b35 (Or1 b34 (Orq bo_r (Or1 oc (Or1 st No))))))) f19 o42 (or1_skip (or1_mono (orq_mono (or1_mono (or1_mono no_any))))) (xx_new (Nat.le_of_eq hD_) (xx_or1 (xx_or1 (xx_re qq_r (xx_or1 (xx_or1 xx_id))))))
  replace f31 := Ps.re (X' := (Or1 D_ (Or1 b35 (Or1 b34 (Orq bo_r (Or1 oc (Or1 st No))))))) f31 o42 (or1_skip (or1_mono (orq_mono (or1_mono (or1_mono no_any))))) (xx_new (Nat.le_of_eq hD_) (xx_or1 (xx_or1 (xx_re qq_r (xx_or1 (xx_or1 xx_id))))))
  replace oW := oW.tail o42 (tl_new g_oW_b34 (tl_q q_oW_r (fun _ e => by cases e) (tl_new g_oW_oc (tl_new g_oW_st tl_no))))
  replace q_oW_r := qtr qq_r q_oW_r tq_oW
  replace nq_r_st := nqs nq_r_st qq_r h_lt_st
  replace nq_r_oc := nqs nq_r_oc qq_r h_lt_oc
  replace nq_r_b35 := nqs nq_r_b35 qq_r h_lt_b35
  have q_o42_r : Fr bo_r none w32.heap.size := qq_r
  have n_st_D_ : st ≠ D_ := by omega
  have n_oc_D_ : oc ≠ D_ := by omega
  have n_b35_D_ : b35 ≠ D_ := by omega
  have n_b34_D_ : b34 ≠ D_ := by omega
  have g_oW_D_ : W.heap.size ≤ D_ := by omega
  have g_o42_D_ : w32.heap.size ≤ D_ := by omega
  have hl_ := parts_len 28 (la.drop 4) (subv 1 4 la.length u1); have hl2_ : (la.drop 4).length = 56 := by rw [List.length_drop, c0]
  refine inb_n (tN ?_)
  refine wQ (pL ?_)
  refine wI (d_load (v := u_r) ⟨_, Try.underlying22, rfl⟩ rfl a28 rfl) ?_
  refine wO (d_call (xl := [.tmp 33]) (al := [u_r]) Try.func41 kr rfl rfl rfl (cloneB_ok (pdTo la (partsV 28 (la.drop 4) (subv 1 4 la.length u1)).length) u_r _ (Ps.no (a30.seq (X := No) (fun _ _ h => h))) (by have := pdTo_len la ((partsV 28 (la.drop 4) (subv 1 4 la.length u1)).length); first | omega | (simp; done) | (simp; omega)))) ?_
  rintro u67 w65 f68
  obtain ⟨bo69, f68, g70, o66⟩ := f68
  have nq_r2_st := nq_new g70 a13.lt
  have nq_r2_oc := nq_new g70 a28.lt
  have nq_r2_b35 := nq_new g70 a39.lt
  have nq_r2_b34 := nq_new g70 a38.lt
  have nq_r2_D_ := nq_new g70 aD_.lt
  have nqq_r_r2 := nqq_new g70 a30.lts
  have q_oW_r2 := qnew g70 oW.size
  have q_o42_r2 := qnew g70 o42.size
  replace h1 := h1.newq o66 g70
  replace f19 := f19.newq o66 g70
  replace f31 := f31.newq o66 g70
  replace a13 := a13.step0 o66
  replace a28 := a28.step0 o66
  replace a39 := a39.step0 o66
  replace a38 := a38.step0 o66
  replace aD_ := aD_.step0 o66
  replace a30 := a30.step0 o66
  replace oW := oW.tail0 o66
  replace o42 := o42.tail0 o66
  refine wI (d_buildS (pl := [(0, 1), (1, 1)]) (zs := [(eN 0), (Value.slice none 0 0)]) (cs := [(eN 2), u67]) Try.underlying32 s_ti32 ⟨_, _, _, _, rfl, s_ti3, ⟨_, _, _, _, rfl, s_ti22, rfl⟩⟩ rfl (parts_cons (vs := [(eN 2)]) (cells_of (v := (eN 2)) rfl rfl) (parts_cons (vs := [u67]) (cells_of (v := u67) rfl (Ow.cells f68)) parts_nil)) rfl) ?_
  refine wO (d_storeAg (cs' := [(eN 2), u67]) s_ti32 rfl rfl rfl (oc_cons rfl (oc_cons (Ow.one f68) oc_nil)) a13 (by decide) rfl) ?_
  rintro _ w71 ⟨a72, o73⟩
  replace h1 := h1.stepb o73 (inq (in2 (in2 (in2 (inq (in2 in1))))))
  replace f19 := f19.stepb o73 (inq (in2 (in2 (in2 (inq (in2 in1))))))
  replace f31 := f31.stepb o73 (inq (in2 (in2 (in2 (inq (in2 in1))))))
  replace a28 := a28.step o73 (fun e => absurd e (Ne.symm n_st_oc))
  replace a39 := a39.step o73 (fun e => absurd e (Ne.symm n_st_b35))
  replace a38 := a38.step o73 (fun e => absurd e (Ne.symm n_st_b34))
  replace aD_ := aD_.step o73 (fun e => absurd e (Ne.symm n_st_D_))
  replace a30 := a30.step o73 (fun x hx e => nq_r_st x hx e)
  replace f68 := f68.step o73 (fun x hx e => nq_r2_st x hx e)
  replace oW := oW.tailb o73 g_oW_st
  replace o42 := o42.tail o73 (fun k _ e => by have : k = st := e; rw [this]; exact (in2 (inq (in2 in1))))
  refine wD (tN ?_)
  refine wpIn_ret ?_
  refine leave (v := (Value.agg #[(eN 2), u67])) (marks_ok aD_) (fun w74 o75 => ⟨resC Try.results21 ⟨_, Try.underlying32, rfl⟩ s_ti32 rfl (a72.step (only_mem o75) (fun e => absurd e n_st_D_)) rfl, ?_⟩)
  replace o75 := only_mem o75
  replace h1 := h1.stepb o75 (inq in1)
  replace f19 := f19.stepb o75 (inq in1)
  replace f31 := f31.stepb o75 (inq in1)
  replace a72 := a72.step o75 (fun e => absurd e n_st_D_)
  replace a28 := a28.step o75 (fun e => absurd e n_oc_D_)
  replace a39 := a39.step o75 (fun e => absurd e n_b35_D_)
  replace a38 := a38.step o75 (fun e => absurd e n_b34_D_)
  replace a30 := a30.step o75 (fun x hx e => nq_r_D_ x hx e)
  replace f68 := f68.step o75 (fun x hx e => nq_r2_D_ x hx e)
  replace oW := oW.tailb o75 g_oW_D_
  replace o42 := o42.tailb o75 g_o42_D_
  exact RPg.of (pgD_good2 c0 c1 _ hok) (Ow.seq f68 (old_q q_oW_r2)) oW
 ·
  rintro c_ pre w1_ hpx_ ⟨rfl, ⟨bo_r, u_r, hbad, hb2, o42, a13, a28, a39, a38, a30, qq_r, nq_r_b34, nq_r_D_, nq_r_L_⟩⟩ aD_
  replace h1 := Ps.re (X' := (Or1 D_ (Or1 b35 (Or1 b34 (Orq bo_r (Or1 oc (Or1 st No))))))) h1 o42 (or1_skip (or1_mono (orq_mono (or1_mono (or1_mono no_any))))) (xx_new (Nat.le_of_eq hD_) (xx_or1 (xx_or1 (xx_re qq_r (xx_or1 (xx_or1 xx_id))))))
  replace f19 := Ps.re (X' := (Or1 D_ (Or1 b35 (Or1 b34 (Orq bo_r (Or1 oc (Or1 st No))))))) f19 o42 (or1_skip (or1_mono (orq_mono (or1_mono (or1_mono no_any))))) (xx_new (Nat.le_of_eq hD_) (xx_or1 (xx_or1 (xx_re qq_r (xx_or1 (xx_or1 xx_id))))))
  replace f31 := Ps.re (X' := (Or1 D_ (Or1 b35 (Or1 b34 (Orq bo_r (Or1 oc (Or1 st No))))))) f31 o42 (or1_skip (or1_mono (orq_mono (or1_mono (or1_mono no_any))))) (xx_new (Nat.le_of_eq hD_) (xx_or1 (xx_or1 (xx_re qq_r (xx_or1 (xx_or1 xx_id))))))
  replace oW := oW.tail o42 (tl_new g_oW_b34 (tl_q q_oW_r (fun _ e => by cases e) (tl_new g_oW_oc (tl_new g_oW_st tl_no))))
  replace q_oW_r := qtr qq_r q_oW_r tq_oW
  replace nq_r_st := nqs nq_r_st qq_r h_lt_st
  replace nq_r_oc := nqs nq_r_oc qq_r h_lt_oc
  replace nq_r_b35 := nqs nq_r_b35 qq_r h_lt_b35
  have q_o42_r : Fr bo_r none w32.heap.size := qq_r
  have n_st_D_ : st ≠ D_ := by omega
  have n_oc_D_ : oc ≠ D_ := by omega
  have n_b35_D_ : b35 ≠ D_ := by omega
  have n_b34_D_ : b34 ≠ D_ := by omega
  have g_oW_D_ : W.heap.size ≤ D_ := by omega
  have g_o42_D_ : w32.heap.size ≤ D_ := by omega
  refine wpIn_ret ?_
  refine inb_r (then_r ?_)
  refine leave (v := (Value.agg #[(eN 1), (Value.slice none 0 0)])) (marks_ok aD_) (fun w76 o77 => ⟨resC Try.results21 ⟨_, Try.underlying32, rfl⟩ s_ti32 rfl (a13.step (only_mem o77) (fun e => absurd e n_st_D_)) rfl, ?_⟩)
  replace o77 := only_mem o77
  replace h1 := h1.stepb o77 in1
  replace f19 := f19.stepb o77 in1
  replace f31 := f31.stepb o77 in1
  replace a13 := a13.step o77 (fun e => absurd e n_st_D_)
  replace a28 := a28.step o77 (fun e => absurd e n_oc_D_)
  replace a39 := a39.step o77 (fun e => absurd e n_b35_D_)
  replace a38 := a38.step o77 (fun e => absurd e n_b34_D_)
  replace a30 := a30.step o77 (fun x hx e => nq_r_D_ x hx e)
  replace oW := oW.tailb o77 g_oW_D_
  replace o42 := o42.tailb o77 g_o42_D_
  exact RPg.of (pgD_bad c0 c1 oo hbad) seq_nil oW
end Go.Proofs.YtgalehapmdabeaaF
namespace Go.Proofs.YtgalehapmdabeaaF
open Go Shelf YtgalehapmdabeaaS Ram
section
variable {P : Program} {d : Option Tmp} {tt : TypeId} {s : String} {af : Array Edge} {g : Option (Nat × Bool)} {ρ : Operand → Value} {w : World}
theorem d_funcB {f : Nat} {yl : List Operand} {ys : List Value} (hb : yl.map ρ = ys) : DV P ⟨d, .makeFunc (.func f) yl.toArray #[], tt, s, af, g⟩ ρ w (.func (.func f) ys.toArray #[]) :=
 d_func (by rw [← hb]; simp) (by simp)
theorem d_callB {x : Operand} {f : Nat} {cl : List Value} {xl : List Operand} {ts : Array TypeId} {al al' : List Value} {fn : Func} {R : Value → World → Prop} (hx : ρ x = .func (.func f) cl.toArray #[]) (hf : P.funcs[f]? = some fn) {c : Code} (hn : (fn.name == "runtime.NumGoroutine") = false) (hb : fn.body = some c) (ha : xl.map ρ = al) (ha' : cl ++ al = al')
  (h : CW P f al'.toArray w (Rt R)) : Does P ⟨d, .call ⟨.value x, xl.toArray, ts⟩, tt, s, af, g⟩ ρ w R := by
 refine ⟨by simp, ?_⟩
 have : (execOp ρ ⟨d, .call ⟨.value x, xl.toArray, ts⟩, tt, s, af, g⟩).run P w = .ok (.enter f al'.toArray) w := by
  have he := enters_of hf hn hb al'.toArray w
  have ha2 : xl.toArray.map ρ = al.toArray := by rw [List.map_toArray, ha]
  have ha3 : cl.toArray ++ al.toArray = al'.toArray := by rw [List.append_toArray, ha']
  simp only [execOp, resolve, hx, ha2, Sem.run_bind, Deferred.ofValue, Sem.run_pure, Result.andThen, invoke, Array.append_empty, ha3, he]
 rw [this]
 exact h
end
theorem resS {P : Program} {fn : Func} {l : List Value} {tm : Tmp} {t e : TypeId} {b : Nat} {v : Value} {w : World} (hr : fn.results = #[.cell tm t]) (ht : Sc P t) (hv : nth l tm = ptr b 0) (hA : Arr e b [v] w) : (results fn l.toArray).run P w = .ok v w := by
 have hv' : l.getD tm undef = .pointer (some ⟨b, 0, none⟩) := by rw [← nth_eq]; exact hv
 have hc : w.cell? ⟨b, 0, none⟩ = some v := hA.cell rfl
 have hl' : (loadVar t ⟨b, 0, none⟩).run P w = .ok v w := by simp [loadVar, run_isAgg_sc ht, go_sem, hc]
 unfold results
 rw [hr]
 have hg : l[tm]?.getD undef = .pointer (some ⟨b, 0, none⟩) := by rw [← hv', List.getD_eq_getElem?_getD]
 simp [Sem.run_bind, Sem.run_pure, Result.andThen, hg, asAddr, hl']
def plTo (bl : List Int) (i : Nat) : List (Nat × Int) := (List.range i).map fun j => (j, bl.getD j 0)
def plL (bl : List Int) : List (Nat × Int) := plTo bl bl.length
section
variable {bl : List Int} {i : Nat}
theorem plTo_next (bl : List Int) (i : Nat) : plTo bl i ++ [(i, bl.getD i 0)] = plTo bl (i + 1) := by
 unfold plTo
 rw [List.range_succ, List.map_append]
 rfl
theorem plTo_len (bl : List Int) (i : Nat) : (plTo bl i).length = i := by simp [plTo]
theorem plL_len (bl : List Int) : (plL bl).length = bl.length := plTo_len bl _
theorem plTo_pre (h : i ≤ bl.length) : plTo bl i <+: plL bl := by
 have : List.range i <+: List.range bl.length := ⟨(List.range bl.length).drop i, by conv => rhs; rw [← List.take_append_drop i (List.range bl.length), List.take_range, Nat.min_eq_left h]⟩
 exact this.map _
theorem pl_pre (h : i < bl.length) : plTo bl i ++ [(i, bl.getD i 0)] <+: plL bl := by rw [plTo_next]; exact plTo_pre h
theorem pre_pl {pre : List (Nat × Int)} {x : Nat × Int} (h : pre ++ [x] <+: plL bl) : pre.length < bl.length ∧ x = (pre.length, bl.getD pre.length 0) := by
 obtain ⟨t, ht⟩ := h
 have h1 : (plL bl)[pre.length]? = some x := by rw [← ht]; simp
 unfold plL plTo at h1
 rw [List.getElem?_map] at h1
 by_cases hi : pre.length < bl.length
 ·rw [List.getElem?_range hi] at h1
  injection h1 with h1
  exact ⟨hi, h1.symm⟩
 ·rw [List.getElem?_eq_none (by simpa using hi)] at h1
  cases h1
theorem pl_len {pre : List (Nat × Int)} (h : pre <+: plL bl) : pre.length ≤ bl.length := by have := h.length_le; rwa [plL_len] at this
end
def okN (C : Nat → Nat) : Nat → Nat
 | 0 => 0
 | n + 1 => if okN C n = n ∧ C n = 0 then n + 1 else okN C n
def runS {σ : Type} (T : Nat → σ) (C : Nat → Nat) (n : Nat) : σ := if okN C n = n then T n else T (okN C n + 1)
def runC (C : Nat → Nat) (n : Nat) : Nat := if okN C n = n then 0 else C (okN C n)
theorem okN_all {C : Nat → Nat} : ∀ {n}, (∀ j, j < n → C j = 0) → okN C n = n
 | 0, _ => rfl
 | n + 1, h => by unfold okN; rw [if_pos ⟨okN_all fun j hj => h j (by omega), h n (by omega)⟩]
theorem okN_one {C : Nat → Nat} {k : Nat} (h : ∀ j, j < k → C j = 0) (hk : ¬ C k = 0) : ∀ {n}, k < n → okN C n = k
 | n + 1, hn => by
  unfold okN
  by_cases e : k = n
  ·subst e
   rw [if_neg (fun h2 => hk h2.2)]
   exact okN_all h
  ·rw [okN_one h hk (show k < n by omega), if_neg (fun h2 => e h2.1)]
theorem run_all {σ : Type} {T : Nat → σ} {C : Nat → Nat} {n : Nat} (h : ∀ j, j < n → C j = 0) : T n = runS T C n ∧ 0 = runC C n := by
 unfold runS runC
 rw [okN_all h, if_pos rfl, if_pos rfl]
 exact ⟨rfl, rfl⟩
theorem run_one {σ : Type} {T : Nat → σ} {C : Nat → Nat} {k n : Nat} (h : ∀ j, j < k → C j = 0) (hk : ¬ C k = 0) (hn : k < n) : T (k + 1) = runS T C n ∧ C k = runC C n := by
 unfold runS runC
 rw [okN_one h hk hn, if_neg (by omega), if_neg (by omega)]
 exact ⟨rfl, rfl⟩
noncomputable def rowP (bl : List Int) (p : Int) (pl : Nat → List UInt8) (s : NS) : Nat → NS
 | 0 => s
 | k + 1 => (rowP bl p pl s k).prog (k : Nat) (bl.getD k 0) p (pgE (pl k))
noncomputable def rowPC (bl : List Int) (p : Int) (pl : Nat → List UInt8) (s : NS) (k : Nat) : Nat := (rowP bl p pl s k).progR (k : Nat) (bl.getD k 0) p (pgE (pl k))
def rowE (bl : List Int) (s : NS) : Nat → NS
 | 0 => s
 | k + 1 => (rowE bl s k).erase (k : Nat) (bl.getD k 0)
def rowEC (bl : List Int) (s : NS) (k : Nat) : Nat := (rowE bl s k).eraseR (k : Nat) (bl.getD k 0)
def rowR (bl : List Int) (p : Int) (s : NS) : Nat → NS
 | 0 => s
 | k + 1 => (rowR bl p s k).ask ((rowR bl p s k).readOk (k : Nat) (bl.getD k 0) p)
def rowRC (bl : List Int) (p : Int) (s : NS) (k : Nat) : Nat := (rowR bl p s k).askR ((rowR bl p s k).readOk (k : Nat) (bl.getD k 0) p)
def rowRL (bl : List Int) (p : Int) (s : NS) (k : Nat) : List UInt8 := (rowR bl p s k).readL (k : Nat) (bl.getD k 0) p
def rowDo (g n : Nat) (T : Nat → NS) (C : Nat → Nat) : NS := if n = g then runS T C n else T 0
def rowDoC (g n : Nat) (C : Nat → Nat) : Nat := if n = g then runC C n else 1
section
variable {g n k : Nat} {T : Nat → NS} {C : Nat → Nat}
theorem do_no (h : ¬ n = g) : T 0 = rowDo g n T C ∧ 1 = rowDoC g n C := by unfold rowDo rowDoC; rw [if_neg h, if_neg h]; exact ⟨rfl, rfl⟩
theorem do_all (h : n = g) (hC : ∀ j, j < n → C j = 0) : T n = rowDo g n T C ∧ 0 = rowDoC g n C := by unfold rowDo rowDoC; rw [if_pos h, if_pos h]; exact run_all hC
theorem do_one (h : n = g) (hC : ∀ j, j < k → C j = 0) (hk : ¬ C k = 0) (hn : k < n) : T (k + 1) = rowDo g n T C ∧ C k = rowDoC g n C := by unfold rowDo rowDoC; rw [if_pos h, if_pos h]; exact run_one hC hk hn
end
noncomputable def rowWS (s : NS) (bl : List Int) (p : Int) (pl : Nat → List UInt8) (n : Nat) : NS := if n = bl.length then rowDo s.gD bl.length (rowP bl p pl s) (rowPC bl p pl s) else s
noncomputable def rowWC (s : NS) (bl : List Int) (p : Int) (pl : Nat → List UInt8) (n : Nat) : Nat := if n = bl.length then rowDoC s.gD bl.length (rowPC bl p pl s) else 1
theorem made_pg : (madeCells (Value.agg #[Value.int .i64 0, Value.slice none 0 0]).cells (1 * 2)).toList = [Value.int .i64 0, Value.slice none 0 0] := by
 unfold madeCells
 rw [Array.toList_map, Array.toList_range]
 show List.map _ [0, 1] = _
 rfl
def eG (x : Nat × Value) : List Value := [eN x.1, x.2]
section
variable {e : TypeId} {bo : Option Nat} {u : Value} {w : World} {X : Nat → Prop} {n : Nat} {xs ys : List (Nat × Value)} {cs : List Value}
theorem flatG_len : ∀ xs : List (Nat × Value), (xs.flatMap eG).length = xs.length * 2
 | [] => rfl
 | x :: xs => by rw [List.flatMap_cons, List.length_append, flatG_len xs, List.length_cons]; show 2 + _ = _; omega
theorem flatG_at : ∀ (xs : List (Nat × Value)) (i j : Nat) (x : Nat × Value) (v : Value), xs[i]? = some x → (eG x)[j]? = some v → (xs.flatMap eG)[i * 2 + j]? = some v
 | [], i, j, x, v, h, _ => by simp at h
 | y :: xs, 0, j, x, v, h, hv => by
  have h : y = x := by simpa using h
  subst h
  have := (List.getElem?_eq_some_iff.1 hv).1
  rw [List.flatMap_cons, List.getElem?_append_left (by omega), Nat.zero_mul, Nat.zero_add]
  exact hv
 | y :: xs, i + 1, j, x, v, h, hv => by
  have h : xs[i]? = some x := by simpa using h
  rw [List.flatMap_cons, List.getElem?_append_right (by show 2 ≤ _; omega)]
  rw [show (i + 1) * 2 + j - (eG y).length = i * 2 + j by show _ - 2 = _; omega]
  exact flatG_at xs i j x v h hv
theorem Ow.seqG (h : Ow e 2 bo u n (xs.flatMap eG) w) (hX : ∀ b, bo = some b → ¬ X b) : Ps X (Seq (kA 2 eG) xs u) w := by
 rcases h with ⟨h1, h2, h3, h4⟩ | ⟨b, cap, rest, h1, h2, h3, h4, h5, h6⟩
 ·have := flatG_len xs
  rw [h4] at this
  have : xs = [] := List.eq_nil_of_length_eq_zero (by simp at this; omega)
  subst this; subst h2
  exact Ps.mk0 fun w => ⟨none, 0, rfl, Nat.le_refl _, fun i x h => by simp at h⟩
 ·have hn : xs.length = n := by rw [flatG_len] at h5; omega
  subst h2; subst hn
  refine (h4.ps fun w' h' => ?_).less (fun k _ hk e => hX b h1 (e ▸ hk))
  refine ⟨_, _, rfl, h3, fun i x hi => ⟨_, rfl, rfl, fun j v hj => ?_⟩⟩
  rw [add0]
  show w'.cell? ((⟨b, 0 + i * 2, none⟩ : Addr).add j) = some v
  rw [add0]
  refine h'.cell ?_
  have h7 := flatG_at xs i j x v hi hj
  rw [Nat.zero_add, List.getElem?_append_left (List.getElem?_eq_some_iff.1 h7).1]
  exact h7
theorem ow_appG (h : Ow e 2 bo u (xs.length + n) (xs.flatMap eG ++ cs) w) (hn : ys.length = n) (hc : cs = ys.flatMap eG) : Ow e 2 bo u (xs ++ ys).length ((xs ++ ys).flatMap eG) w := by
 rw [List.length_append, List.flatMap_append, hn, ← hc]; exact h
theorem one_eG {m : Nat} {a : Value} (h : a.oneCell' = true) : ∀ v ∈ [eN m, a], v.oneCell' = true := fun v hv => by
 rcases List.mem_cons.1 hv with h' | hx
 ·rw [h']; rfl
 ·rw [List.mem_singleton.1 hx]; exact h
theorem Ow.srcG (h : Ow e 2 bo u xs.length (xs.flatMap eG) w) (h1 : ∀ x ∈ xs, x.2.oneCell' = true) : SrcV 2 xs.length (xs.flatMap eG) u w := by
 have one : ∀ v ∈ xs.flatMap eG, v.oneCell' = true := fun v hv => by
  obtain ⟨x, hx, hv⟩ := List.mem_flatMap.1 hv
  exact one_eG (h1 x hx) v hv
 rcases h with ⟨h1, h2, h3, h4⟩ | ⟨b, cap, rest, h1, h2, h3, h4, h5, h6⟩
 ·have := flatG_len xs
  rw [h4] at this
  have : xs = [] := List.eq_nil_of_length_eq_zero (by simp at this; omega)
  subst this; subst h2
  exact ⟨none, 0, rfl, rfl, fun j v h => by simp at h, fun v hv => by simp at hv⟩
 ·subst h2
  refine ⟨_, _, rfl, flatG_len xs, fun j v hj => ⟨_, rfl, ?_⟩, one⟩
  rw [add0]
  refine h4.cell ?_
  rw [Nat.zero_add, List.getElem?_append_left (List.getElem?_eq_some_iff.1 hj).1]
  exact hj
end
def pgRow (st : Nat → Nat) (vs : List Value) : List (Nat × Value) := (List.range vs.length).map fun i => (st i, vs.getD i undef)
theorem pgRow_len (st : Nat → Nat) (vs : List Value) : (pgRow st vs).length = vs.length := by simp [pgRow]
theorem pgRow_snoc {st : Nat → Nat} {vs : List Value} {v : Value} {k : Nat} (hk : vs.length = k) : pgRow st vs ++ [(st k, v)] = pgRow st (vs ++ [v]) := by
 subst hk
 unfold pgRow
 rw [List.length_append, List.length_singleton, List.range_succ, List.map_append]
 congr 1
 ·refine List.map_congr_left fun i hi => ?_
  rw [List.getD_eq_getElem?_getD, List.getD_eq_getElem?_getD, List.getElem?_append_left (List.mem_range.1 hi)]
 ·show [(st vs.length, v)] = [(st vs.length, (vs ++ [v]).getD vs.length undef)]
  rw [List.getD_eq_getElem?_getD, List.getElem?_append_right (Nat.le_refl _), Nat.sub_self]
  rfl
theorem pgRow_at {st : Nat → Nat} {vs : List Value} {i : Nat} (h : i < vs.length) : (pgRow st vs).getD i (0, undef) = (st i, vs.getD i undef) := by
 unfold pgRow
 rw [List.getD_eq_getElem?_getD, List.getElem?_map, List.getElem?_range h]
 rfl
theorem pgRow_one {α : Type} {q : Kd α} {st : Nat → Nat} {vs : List Value} {n : Nat} {f : Nat → List α} {X : Nat → Prop} {w : World} (h : Ps X (Fam q n f vs) w) (hn : vs.length = n) : ∀ x ∈ pgRow st vs, x.2.oneCell' = true := fun x hx => by
 unfold pgRow at hx
 obtain ⟨i, hi, rfl⟩ := List.mem_map.1 hx
 exact Seq.one (fam_at h (by rw [← hn]; exact List.mem_range.1 hi))
theorem readL_le {s : NS} (ok : s.Ok) (d b p : Int) : (s.readL d b p).length ≤ 60 := by
 unfold NS.readL
 split
 ·rw [flipI_length]; exact Nat.le_of_eq (ok.dl _)
 ·exact Nat.zero_le _
section
variable {X X' : Nat → Prop} {q bo : Option Nat} {b m n : Nat} {L : NL}
theorem yz_or1 (hb : b < n) (h : ∀ k, k < m → X k → Orq q (Old n) k) : ∀ k, k < m → Or1 b X k → Orq q (Old n) k := fun k hk t => t.elim (fun e => .inr (by rw [e]; exact hb)) (h k hk)
theorem yz_ors (hb : ∀ k, L.S k → k < n) (h : ∀ k, k < m → X k → Orq q (Old n) k) : ∀ k, k < m → Ors L.S X k → Orq q (Old n) k := fun k hk t => t.elim (fun e => .inr (hb k e)) (h k hk)
theorem yz_q (h : ∀ k, k < m → X k → Orq q (Old n) k) : ∀ k, k < m → Orq q X k → Orq q (Old n) k := fun k hk t => t.elim .inl (h k hk)
theorem yy_id : ∀ k, k < m → X k → Orq q X k := fun _ _ t => .inr t
theorem yy_or1 (h : ∀ k, k < m → X' k → Orq q X k) : ∀ k, k < m → Or1 b X' k → Orq q (Or1 b X) k := fun k hk t => t.elim (fun e => .inr (.inl e)) (fun t => (h k hk t).imp id .inr)
theorem yy_q (h : ∀ k, k < m → X' k → Orq q X k) : ∀ k, k < m → Orq q X' k → Orq q (Orq bo X) k := fun k hk t => t.elim .inl (fun t => (h k hk t).imp id .inr)
end
end Go.Proofs.YtgalehapmdabeaaF
namespace Ram
open Go.Proofs.YtgalehapmdabeaaF (shlB shrB)
theorem encR_code {d : List UInt8} (h : d.length = 24) : IsCode (encR d) := by rw [encR_yes h]; exact enc_code h
theorem encR_length {d : List UInt8} (h : d.length = 24) : (encR d).length = 28 := (encR_code h).len
theorem encR_drop {d : List UInt8} (h : d.length = 24) : (encR d).drop 4 = d := by rw [encR_yes h]; exact enc_drop h
def xorL (a b : List UInt8) : List UInt8 := tab 24 (fun k => a.getD k 0 ^^^ b.getD k 0)
def xorTo (a b : List UInt8) (i : Nat) : List UInt8 := tab 24 (fun k => if k < i then a.getD k 0 ^^^ b.getD k 0 else 0)
def genQ : List UInt8 := [1, 0, 1, 1, 0, 1, 1, 0, 0, 1, 1, 0, 1, 1, 1, 1, 1, 1, 1, 1, 1, 1, 0, 0, 1, 0, 0, 1, 1, 1, 1, 1, 1, 0, 0, 0, 0, 1, 0, 1, 1, 1, 1, 0, 0, 0, 1, 1, 1, 1, 0, 1, 1, 0, 0, 1, 1, 0, 1, 0, 1, 0, 0, 0, 1, 1, 0, 1, 1, 0, 0, 1, 0, 1, 0, 1, 1, 0, 1, 1, 0, 0, 0, 1, 0, 1, 1, 0, 0, 1, 1, 0, 0, 0, 1, 1, 1, 0, 1, 0, 1, 1, 1, 0, 1, 0, 0, 0, 0, 1, 1, 1, 1, 0, 1, 1, 1, 0, 1, 0, 1, 1, 1, 1, 1, 1, 0, 1, 1, 0, 0, 0, 0, 1, 1, 1, 1, 0, 0, 0, 0, 1, 1, 0, 0, 1, 1, 1, 1, 0, 1, 0, 0, 1, 0, 0, 1, 0, 0, 1, 0, 1, 0, 1, 0, 1, 0, 0, 1, 0, 0, 0, 1, 1, 1, 1, 1, 0, 0, 0, 1, 1, 0, 0, 1, 1, 1, 1, 1, 0, 0, 1, 1, 1, 0, 0, 0, 0, 1, 0, 1, 0, 1, 0, 1, 0, 0, 1, 0, 1, 1, 1, 1, 0, 0, 0, 0, 1, 0, 1, 0, 0, 1, 1]
def synL (L : List Nat) : List UInt8 := tab 8 (fun i => syn L (i + 1))
def btTo (w : List UInt8) (i : Nat) : List UInt8 := tab 224 (fun k => if k < i then (if bt w k then 1 else 0) else 0)
end Ram
namespace Go.Proofs.YtgalehapmdabeaaF
open Go Shelf YtgalehapmdabeaaS Ram
def partP (a n : Nat) (P : List Nat) : List Nat := (P.filter fun k => decide (8 * a ≤ k ∧ k < 8 * (a + n))).map (· - 8 * a)
theorem dec_yes {d : List UInt8} (hd : d.length = 24) {L : List Nat} (hn : L.Nodup) (hl : ∀ k ∈ L, k < 224) (h3 : L.length ≤ 3) : decD (flipL (encR d) L) = d ∧ decB (flipL (encR d) L) = true := by
 have hc := encR_code hd
 have hN := decL_of (dec_mends hc hn hl h3)
 have := dec_some (by rw [flipL_length, hc.len]) hN
 rw [flip_twice hc.len hn hl, encR_drop hd] at this
 exact ⟨this.1, this.2.2⟩
theorem dec_not {d : List UInt8} (hd : d.length = 24) {L : List Nat} (hn : L.Nodup) (hl : ∀ k ∈ L, k < 224) (h3 : 3 < L.length) (h5 : L.length ≤ 5) : decB (flipL (encR d) L) = false := by
 have hc := encR_code hd
 exact (dec_none (by rw [flipL_length, hc.len]) (decL_no (dec_fails hc hn hl h3 h5))).2.2
section
variable {d c m : List UInt8} {P : List Nat}
theorem pgH_length (hd : d.length = 48) {i : Nat} (hi : i < 2) : (pgH d i).length = 24 := by
 unfold pgH; rw [List.length_take, List.length_drop, hd]
 rcases (show i = 0 ∨ i = 1 by omega) with rfl | rfl <;> rfl
theorem pgE_length (hd : d.length = 48) : (pgE d).length = 60 := by
 rw [pgE_yes hd, List.length_append, List.length_append, List.length_replicate, encR_length (pgH_length hd (by decide)), encR_length (pgH_length hd (by decide))]
theorem pgE_mark (hd : d.length = 48) : (pgE d).take 4 = List.replicate 4 0 := by
 rw [pgE_yes hd, List.append_assoc, List.take_left' (by simp)]
theorem pgE_drop (hd : d.length = 48) : (pgE d).drop 4 = encR (pgH d 0) ++ encR (pgH d 1) := by
 rw [pgE_yes hd, List.append_assoc, List.drop_left' (by simp)]
theorem pgW_of (w : List UInt8) (i : Nat) : pgW w i = ((w.drop 4).drop (i * 28)).take 28 := rfl
theorem pgW_enc (hd : d.length = 48) {w : List UInt8} (hw : w.drop 4 = (pgE d).drop 4) {i : Nat} (hi : i < 2) : pgW w i = encR (pgH d i) := by
 have h0 := encR_length (pgH_length hd (i := 0) (by decide))
 have h1 := encR_length (pgH_length hd (i := 1) (by decide))
 rw [pgW_of, hw, pgE_drop hd]
 rcases (show i = 0 ∨ i = 1 by omega) with rfl | rfl
 ·rw [Nat.zero_mul, List.drop_zero, List.take_left' h0]
 ·rw [Nat.one_mul, List.drop_left' h0, List.take_of_length_le (by omega)]
theorem halves (hd : d.length = 48) : pgH d 0 ++ pgH d 1 = d := by
 rw [pgH0, pgH1 hd, List.take_append_drop]
theorem page_words (hd : d.length = 48) (hc : c.length = 60) (hm : ¬ 16 < onesN (c.take 4)) {A B : List Nat} (hA : pgW c 0 = flipL (encR (pgH d 0)) A) (hB : pgW c 1 = flipL (encR (pgH d 1)) B)
  (nA : A.Nodup) (nB : B.Nodup) (lA : ∀ k ∈ A, k < 224) (lB : ∀ k ∈ B, k < 224) (fA : A.length ≤ 5) (fB : B.length ≤ 5) : pgD c = if 3 < A.length ∨ 3 < B.length then (1, []) else (2, d) := by
 split
 ·next h =>
  rcases h with h | h
  ·exact pgD_bad hc hm (k := 0) (by decide) (by rw [hA]; exact dec_not (pgH_length hd (by decide)) nA lA h fA)
  ·exact pgD_bad hc hm (k := 1) (by decide) (by rw [hB]; exact dec_not (pgH_length hd (by decide)) nB lB h fB)
 ·next h =>
  have h0 := dec_yes (pgH_length hd (i := 0) (by decide)) nA lA (by omega)
  have h1 := dec_yes (pgH_length hd (i := 1) (by decide)) nB lB (by omega)
  rw [pgD_good hc hm (by rw [hA]; exact h0.2) (by rw [hB]; exact h1.2), hA, hB, h0.1, h1.1, halves hd]
theorem page_mark (hd : d.length = 48) (hc : c.length = 60) (h : c.drop 4 = (pgE d).drop 4) : pgD c = if 16 < onesN (c.take 4) then (0, []) else (2, d) := by
 split
 ·next hb => exact pgD_blank hc hb
 ·next hb =>
  have := page_words hd hc hb (A := []) (B := []) (pgW_enc hd h (by decide)) (pgW_enc hd h (by decide)) List.nodup_nil List.nodup_nil (fun _ h => by cases h) (fun _ h => by cases h) (by simp) (by simp)
  rw [this]
  simp
end
def ffTo (n i : Nat) : List UInt8 := tab n (fun k => if k < i then 255 else 0)
def hfL (l : List Int) : List Int := l.map fun x => IntKind.i64.wrap (Int.tdiv x 224)
def noiseL (l : List Int) (most : Nat) : List Nat := (placesL l 224 most).map (32 + ·) ++ (placesL (hfL l) 224 most).map (256 + ·)
section
variable {l l' : List Int} {most : Nat}
variable {d : List UInt8}
theorem pg_mark (hd : d.length = 48) {m : List UInt8} (hm : m.length = 4) : pgD (m ++ (pgE d).drop 4) = if 16 < onesN m then (0, []) else (2, d) := by
 rw [page_mark hd (by rw [List.length_append, List.length_drop, pgE_length hd, hm]) (by rw [List.drop_left' hm]), List.take_left' hm]
end
def moveTo (L : List Nat) (o i : Nat) : List Nat := (L.take i).map (o + ·) ++ L.drop i
end Go.Proofs.YtgalehapmdabeaaF
