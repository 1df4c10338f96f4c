import Derived.Test.YtpamdlnobekihaaHnand1
set_option linter.unusedVariables false
set_option linter.unusedSimpArgs false
namespace Go.Proofs.YtpamdlnobekihaaF
open Go Go.Shelf Go.Proofs.YtpamdlnobekihaaS Ram
set_option maxRecDepth 20000 in
set_option maxHeartbeats 1000000 in
theorem erase_ok (L : NL) (s : NS) {X : Nat → Prop} (W : World) (hN : Nd L s X W) (d b : Int) (hX : ∀ k, X k → k < W.heap.size) :
    CW Try.prog 23 #[(ptr L.bN 0), (eI d), (eI b)] W (Rt (fun u w => u = eN (s.eraseR d b) ∧ Nd L (s.erase d b) X w ∧ Only L.S W w)) := by
 have oW : Only L.S W W := Only.refl _ _
 refine enter (al := [(ptr L.bN 0), (eI d), (eI b)]) (k := 75) (l := ([(ptr L.bN 0), (eI d), (eI b)] ++ (us 75))) Try.func23 rfl Try.ntmps23 rfl rfl ?_
 refine wpIn_seq ?_
 refine plain ?_
 refine wO (d_box rfl rfl) ?_
 rintro _ w11 ⟨nbx, rfl, g12, a13, o14⟩
 have g_oW_nbx : W.heap.size ≤ nbx := Nat.le_trans oW.size g12
 replace hN := hN.new o14 g12
 replace oW := oW.tail0 o14
 refine wI (d_assign rfl) ?_
 refine wF ([(ptr L.bN 0), (eI d), (eI b), (ptr nbx 0), undef, undef, (eN 0)] ++ (us 71)) ?_
 refine wpL.done ?_
 refine then_n ?_
 refine wpIn_seq ?_
 refine wpIn_seq ?_
 by_cases k0 : (s.there d b) = true
 ·
  obtain ⟨hd0, hd1, hb0, hb1⟩ := NS.there_of k0
  obtain ⟨dn, rfl⟩ := Int.eq_ofNat_of_zero_le hd0
  replace hd1 : dn < s.gD := Int.ofNat_lt.1 hd1
  refine wp_eq (l' := ([(ptr L.bN 0), (eN dn), (eI b), (ptr nbx 0), undef, undef, (eN 0)] ++ (us 71))) rfl ?_
  obtain ⟨bn, rfl⟩ := Int.eq_ofNat_of_zero_le hb0
  replace hb1 : bn < s.gB := Int.ofNat_lt.1 hb1
  refine wp_eq (l' := ([(ptr L.bN 0), (eN dn), (eN bn), (ptr nbx 0), undef, undef, (eN 0)] ++ (us 71))) rfl ?_
  by_cases k1 : (s.isBad ((dn : Nat) : Int) ((bn : Nat) : Int)) = true
  ·
   refine drawnT (O := (Or1 nbx (Ors L.S No))) (n := 14) 12 [0, 0, 0, 0, 14, 30, 62, 62, 62, 510, 1022, 2046, 4095, 8191] [(0, 11), (1, 12), (2, 13), (3, 14), (4, 15), (5, 16), (6, 17), (7, 18), (8, 19), (9, 20), (10, 21), (11, 22), (12, 23), (13, 7)] [(0, 11), (1, 12), (2, 13), (3, 14), (4, 15), (5, 16), (6, 17), (7, 18), (8, 19), (9, 20), (10, 21), (11, 22)] [0, 1, 2, 3, 4, 5, 6, 7, 8, 9, 10, 11] [] (fun i_ => ([RF.is (Or1 nbx (Ors L.S No)) (ptr L.bN 0), RF.is (Or1 nbx (Ors L.S No)) (ptr L.bN 0), RF.is (Or1 nbx (Ors L.S No)) (eN dn), RF.is (Or1 nbx (Ors L.S No)) (eN bn), RF.is (Or1 nbx (Ors L.S No)) (Value.bool true), RF.is (Or1 nbx (Ors L.S No)) (Value.bool true), RF.is (Or1 nbx (Ors L.S No)) (ptr L.bN 0), RF.is (Or1 nbx (Ors L.S No)) (eN dn), RF.is (Or1 nbx (Ors L.S No)) (eN bn), RF.is (Or1 nbx (Ors L.S No)) (Value.bool true), RF.is (Or1 nbx (Ors L.S No)) (Value.bool false), RF.is (Or1 nbx (Ors L.S No)) (Value.bool false)] : List (RF (Or1 nbx (Ors L.S No)))).getD i_ (RF.any (Or1 nbx (Ors L.S No)))) (fun _ w_ => Arr 27 nbx [(ptr L.bN 0)] w_ ∧ Nd L s (Or1 nbx X) w_) (fun v15 => ([(ptr L.bN 0), (eN dn), (eN bn), (ptr nbx 0), undef, undef, (eN 0), (v15 13), undef, undef, undef, (v15 0), (v15 1), (v15 2), (v15 3), (v15 4), (v15 5), (v15 6), (v15 7), (v15 8), (v15 9), (v15 10), (v15 11), (v15 12)] ++ (us 54))) (fun v15 => ([(ptr L.bN 0), (eN dn), (eN bn), (ptr nbx 0), undef, undef, (eN 0), undef, undef, undef, undef, (v15 0), (v15 1), (v15 2), (v15 3), (v15 4), (v15 5), (v15 6), (v15 7), (v15 8), (v15 9), (v15 10), (v15 11)] ++ (us 55))) s_mx (by kernel_rfl) rfl (by decide) (by rfl) (by kernel_rfl) (by kernel_rfl) (by kernel_rfl) (by rfl) (fun v_ => by kernel_rfl) (fun v_ => by kernel_rfl) (fun _ => fun w_ w2_ h ho => by obtain ⟨r_a13, r_hN⟩ := h; exact ⟨r_a13.step0 ho, r_hN.step0 ho⟩) ⟨a13, hN⟩ ?_ ?_ ?_
   ·
    refine ls_cons ?_ ?_
    ·
     intro v15 lo hi w_ k_ hO hd _ _ hk_ _ hR hold
     obtain ⟨r_a13, r_hN⟩ := hR
     clear hd hold
     refine ⟨_, rfl, gd rfl ?_⟩
     exact Does.is (d_load (v := (ptr L.bN 0)) ⟨_, Try.underlying27, rfl⟩ rfl r_a13 rfl)
    refine ls_cons ?_ ?_
    ·
     intro v15 lo hi w_ k_ hO hd _ _ hk_ _ hR hold
     obtain ⟨r_a13, r_hN⟩ := hR
     clear hd hold
     refine ⟨_, rfl, gd rfl ?_⟩
     exact Does.is (d_load (v := (ptr L.bN 0)) ⟨_, Try.underlying27, rfl⟩ rfl r_a13 rfl)
    refine ls_cons ?_ ?_
    ·
     intro v15 lo hi w_ k_ hO hd _ _ hk_ _ hR hold
     obtain ⟨r_a13, r_hN⟩ := hR
     clear hd hold
     refine ⟨_, rfl, gd rfl ?_⟩
     exact Does.is (d_move rfl)
    refine ls_cons ?_ ?_
    ·
     intro v15 lo hi w_ k_ hO hd _ _ hk_ _ hR hold
     obtain ⟨r_a13, r_hN⟩ := hR
     clear hd hold
     refine ⟨_, rfl, gd rfl ?_⟩
     exact Does.is (d_move rfl)
    refine ls_cons ?_ ?_
    ·
     intro v15 lo hi w_ k_ hO hd _ _ hk_ _ hR hold
     obtain ⟨r_a13, r_hN⟩ := hR
     have e1 : v15 1 = (ptr L.bN 0) := hd 1 (by kernel_rfl)
     have e2 : v15 2 = (eN dn) := hd 2 (by kernel_rfl)
     have e3 : v15 3 = (eN bn) := hd 3 (by kernel_rfl)
     clear hd hold
     refine ⟨_, rfl, gd rfl ?_⟩
     exact d_call (xl := [.tmp 12, .tmp 13, .tmp 14]) (al := [(ptr L.bN 0), (eN dn), (eN bn)]) Try.func40 (by kernel_rfl) rfl (show ([(v15 1), (v15 2), (v15 3)] : List Value) = [(ptr L.bN 0), (eN dn), (eN bn)] from by rw [e1, e2, e3]) rfl (there_ok L s _ r_hN (r := true) ((dn : Nat) : Int) ((bn : Nat) : Int) k0)
    refine ls_cons ?_ ?_
    ·
     intro v15 lo hi w_ k_ hO hd _ _ hk_ _ hR hold
     obtain ⟨r_a13, r_hN⟩ := hR
     have e4 : v15 4 = (Value.bool true) := hd 4 (by kernel_rfl)
     clear hd hold
     refine ⟨_, rfl, gd rfl ?_⟩
     exact Does.is (d_move (v := (Value.bool true)) e4)
    refine ls_cons ?_ ?_
    ·
     intro v15 lo hi w_ k_ hO hd _ _ hk_ _ hR hold
     obtain ⟨r_a13, r_hN⟩ := hR
     have e5 : v15 5 = (Value.bool true) := hd 5 (by kernel_rfl)
     clear hd hold
     refine ⟨_, rfl, gd_on rfl rfl rfl (nb rfl) e5 ?_⟩
     exact Does.is (d_load (v := (ptr L.bN 0)) ⟨_, Try.underlying27, rfl⟩ rfl r_a13 rfl)
    refine ls_cons ?_ ?_
    ·
     intro v15 lo hi w_ k_ hO hd _ _ hk_ _ hR hold
     obtain ⟨r_a13, r_hN⟩ := hR
     have e5 : v15 5 = (Value.bool true) := hd 5 (by kernel_rfl)
     clear hd hold
     refine ⟨_, rfl, gd_on rfl rfl rfl (nb rfl) e5 ?_⟩
     exact Does.is (d_move rfl)
    refine ls_cons ?_ ?_
    ·
     intro v15 lo hi w_ k_ hO hd _ _ hk_ _ hR hold
     obtain ⟨r_a13, r_hN⟩ := hR
     have e5 : v15 5 = (Value.bool true) := hd 5 (by kernel_rfl)
     clear hd hold
     refine ⟨_, rfl, gd_on rfl rfl rfl (nb rfl) e5 ?_⟩
     exact Does.is (d_move rfl)
    refine ls_cons ?_ ?_
    ·
     intro v15 lo hi w_ k_ hO hd _ _ hk_ _ hR hold
     obtain ⟨r_a13, r_hN⟩ := hR
     have e5 : v15 5 = (Value.bool true) := hd 5 (by kernel_rfl)
     have e6 : v15 6 = (ptr L.bN 0) := hd 6 (by kernel_rfl)
     have e7 : v15 7 = (eN dn) := hd 7 (by kernel_rfl)
     have e8 : v15 8 = (eN bn) := hd 8 (by kernel_rfl)
     clear hd hold
     refine ⟨_, rfl, gd_on rfl rfl rfl (nb rfl) e5 ?_⟩
     exact d_call (xl := [.tmp 17, .tmp 18, .tmp 19]) (al := [(ptr L.bN 0), (eN dn), (eN bn)]) Try.func27 (by kernel_rfl) rfl (show ([(v15 6), (v15 7), (v15 8)] : List Value) = [(ptr L.bN 0), (eN dn), (eN bn)] from by rw [e6, e7, e8]) rfl (isBad_ok L s _ r_hN (r := true) ((dn : Nat) : Int) ((bn : Nat) : Int) k1)
    refine ls_cons ?_ ?_
    ·
     intro v15 lo hi w_ k_ hO hd _ _ hk_ _ hR hold
     obtain ⟨r_a13, r_hN⟩ := hR
     have e5 : v15 5 = (Value.bool true) := hd 5 (by kernel_rfl)
     have e9 : v15 9 = (Value.bool true) := hd 9 (by kernel_rfl)
     clear hd hold
     refine ⟨_, rfl, gd_on rfl rfl rfl (nb rfl) e5 ?_⟩
     exact Does.is (d_not e9 rfl)
    refine ls_cons ?_ ?_
    ·
     intro v15 lo hi w_ k_ hO hd _ _ hk_ _ hR hold
     obtain ⟨r_a13, r_hN⟩ := hR
     have e10 : v15 10 = (Value.bool false) := hd 10 (by kernel_rfl)
     have e5 : v15 5 = (Value.bool true) := hd 5 (by kernel_rfl)
     clear hd hold
     refine ⟨_, rfl, gd rfl ?_⟩
     exact Does.is (d_pick (b := true) (v := (Value.bool false)) e5 e10)
    exact ls_nil
   ·
    exact ms_nil
   intro v15 lo_ hi_ w16 o17 hd iv_ hR
   have e0 : v15 0 = (ptr L.bN 0) := hd 0 (by decide)
   have e1 : v15 1 = (ptr L.bN 0) := hd 1 (by decide)
   have e2 : v15 2 = (eN dn) := hd 2 (by decide)
   have e3 : v15 3 = (eN bn) := hd 3 (by decide)
   have e4 : v15 4 = (Value.bool true) := hd 4 (by decide)
   have e5 : v15 5 = (Value.bool true) := hd 5 (by decide)
   have e6 : v15 6 = (ptr L.bN 0) := hd 6 (by decide)
   have e7 : v15 7 = (eN dn) := hd 7 (by decide)
   have e8 : v15 8 = (eN bn) := hd 8 (by decide)
   have e9 : v15 9 = (Value.bool true) := hd 9 (by decide)
   have e10 : v15 10 = (Value.bool false) := hd 10 (by decide)
   have e11 : v15 11 = (Value.bool false) := hd 11 (by decide)
   clear hd iv_ lo_ hi_
   refine wpL.flat ([(ptr L.bN 0), (eN dn), (eN bn), (ptr nbx 0), undef, undef, (eN 0), undef, undef, undef, undef, (ptr L.bN 0), (ptr L.bN 0), (eN dn), (eN bn), (Value.bool true), (Value.bool true), (ptr L.bN 0), (eN dn), (eN bn), (Value.bool true), (Value.bool false), (Value.bool false)] ++ (us 55)) (by rw [e0, e1, e2, e3, e4, e5, e6, e7, e8, e9, e10, e11] <;> rfl) ?_
   clear e0 e1 e2 e3 e4 e5 e6 e7 e8 e9 e10 e11
   obtain ⟨xr_a13, xr_hN⟩ := hR
   replace a13 : Arr 27 nbx [(ptr L.bN 0)] w16 := xr_a13
   replace hN := xr_hN
   clear xr_a13 xr_hN
   replace oW := oW.tail o17 (tl_new g_oW_nbx (tl_sin (fun k h => h) tl_no))
   refine wO (d_call (xl := [.tmp 11, .tmp 22]) (al := [(ptr L.bN 0), (Value.bool false)]) Try.func47 (by kernel_rfl) rfl rfl rfl (ask_ok L s _ hN (g := (s.eraseOk ((dn : Nat) : Int) ((bn : Nat) : Int))) false (by simp [NS.eraseOk, *]))) ?_
   rintro _ w18 ⟨rfl, a20, o19⟩
   replace a13 := a13.step o19 (hN.dis _ in1)
   replace oW := oW.tail o19 (fun k _ e => (fun k h => h) k e)
   replace hN := a20
   refine wI (d_assign rfl) ?_
   refine wF ([(ptr L.bN 0), (eN dn), (eN bn), (ptr nbx 0), undef, undef, (eN 0), (eN (s.askR (s.eraseOk ((dn : Nat) : Int) ((bn : Nat) : Int)))), undef, undef, undef, (ptr L.bN 0), (ptr L.bN 0), (eN dn), (eN bn), (Value.bool true), (Value.bool true), (ptr L.bN 0), (eN dn), (eN bn), (Value.bool true), (Value.bool false), (Value.bool false), (eN (s.askR (s.eraseOk ((dn : Nat) : Int) ((bn : Nat) : Int))))] ++ (us 54)) ?_
   refine wpL.done ?_
   refine then_n ?_
   refine wpIn_seq ?_
   refine plain ?_
   refine wI (d_move rfl) ?_
   refine wI (n_neq (a := (s.askR (s.eraseOk ((dn : Nat) : Int) ((bn : Nat) : Int)))) (b := 0) rfl rfl rfl) ?_
   refine wF ([(ptr L.bN 0), (eN dn), (eN bn), (ptr nbx 0), undef, undef, (eN 0), (eN (s.askR (s.eraseOk ((dn : Nat) : Int) ((bn : Nat) : Int)))), undef, undef, undef, (ptr L.bN 0), (ptr L.bN 0), (eN dn), (eN bn), (Value.bool true), (Value.bool true), (ptr L.bN 0), (eN dn), (eN bn), (Value.bool true), (Value.bool false), (Value.bool false), (eN (s.askR (s.eraseOk ((dn : Nat) : Int) ((bn : Nat) : Int)))), (eN (s.askR (s.eraseOk ((dn : Nat) : Int) ((bn : Nat) : Int)))), (Value.bool (!decide ((s.askR (s.eraseOk ((dn : Nat) : Int) ((bn : Nat) : Int))) = 0)))] ++ (us 52)) ?_
   refine wpL.done ?_
   refine then_n ?_
   refine cond_un rfl (fun c0 => ?_) (fun c0 => ?_)
   ·
    refine wpIn_seq ?_
    refine plain ?_
    refine wI (d_move rfl) ?_
    refine wI (d_assign rfl) ?_
    refine wF ([(ptr L.bN 0), (eN dn), (eN bn), (ptr nbx 0), undef, undef, (eN (s.askR (s.eraseOk ((dn : Nat) : Int) ((bn : Nat) : Int)))), (eN (s.askR (s.eraseOk ((dn : Nat) : Int) ((bn : Nat) : Int)))), undef, undef, undef, (ptr L.bN 0), (ptr L.bN 0), (eN dn), (eN bn), (Value.bool true), (Value.bool true), (ptr L.bN 0), (eN dn), (eN bn), (Value.bool true), (Value.bool false), (Value.bool false), (eN (s.askR (s.eraseOk ((dn : Nat) : Int) ((bn : Nat) : Int)))), (eN (s.askR (s.eraseOk ((dn : Nat) : Int) ((bn : Nat) : Int)))), (Value.bool (!decide ((s.askR (s.eraseOk ((dn : Nat) : Int) ((bn : Nat) : Int))) = 0))), (eN (s.askR (s.eraseOk ((dn : Nat) : Int) ((bn : Nat) : Int))))] ++ (us 51)) ?_
    refine wpL.done ?_
    refine then_n ?_
    refine wpIn_ret ?_
    refine then_r ?_
    refine leave0 (v := (eN (s.askR (s.eraseOk ((dn : Nat) : Int) ((bn : Nat) : Int))))) (res1 Try.results23 rfl) ?_
    obtain ⟨e1_, e2_⟩ := NS.erase_no c0; exact ⟨congrArg eN e2_.symm, e1_ ▸ (hN.less (xx_skip xx_id)), oW⟩
   exact absurd c0 (NS.askR_no (by simp [NS.eraseOk, *]))
  refine drawnT (O := (Or1 nbx (Ors L.S No))) (n := 14) 12 [0, 0, 0, 0, 14, 30, 62, 62, 62, 510, 1022, 2046, 4095, 8191] [(0, 11), (1, 12), (2, 13), (3, 14), (4, 15), (5, 16), (6, 17), (7, 18), (8, 19), (9, 20), (10, 21), (11, 22), (12, 23), (13, 7)] [(0, 11), (1, 12), (2, 13), (3, 14), (4, 15), (5, 16), (6, 17), (7, 18), (8, 19), (9, 20), (10, 21), (11, 22)] [0, 1, 2, 3, 4, 5, 6, 7, 8, 9, 10, 11] [] (fun i_ => ([RF.is (Or1 nbx (Ors L.S No)) (ptr L.bN 0), RF.is (Or1 nbx (Ors L.S No)) (ptr L.bN 0), RF.is (Or1 nbx (Ors L.S No)) (eN dn), RF.is (Or1 nbx (Ors L.S No)) (eN bn), RF.is (Or1 nbx (Ors L.S No)) (Value.bool true), RF.is (Or1 nbx (Ors L.S No)) (Value.bool true), RF.is (Or1 nbx (Ors L.S No)) (ptr L.bN 0), RF.is (Or1 nbx (Ors L.S No)) (eN dn), RF.is (Or1 nbx (Ors L.S No)) (eN bn), RF.is (Or1 nbx (Ors L.S No)) (Value.bool false), RF.is (Or1 nbx (Ors L.S No)) (Value.bool true), RF.is (Or1 nbx (Ors L.S No)) (Value.bool true)] : List (RF (Or1 nbx (Ors L.S No)))).getD i_ (RF.any (Or1 nbx (Ors L.S No)))) (fun _ w_ => Arr 27 nbx [(ptr L.bN 0)] w_ ∧ Nd L s (Or1 nbx X) w_) (fun v21 => ([(ptr L.bN 0), (eN dn), (eN bn), (ptr nbx 0), undef, undef, (eN 0), (v21 13), undef, undef, undef, (v21 0), (v21 1), (v21 2), (v21 3), (v21 4), (v21 5), (v21 6), (v21 7), (v21 8), (v21 9), (v21 10), (v21 11), (v21 12)] ++ (us 54))) (fun v21 => ([(ptr L.bN 0), (eN dn), (eN bn), (ptr nbx 0), undef, undef, (eN 0), undef, undef, undef, undef, (v21 0), (v21 1), (v21 2), (v21 3), (v21 4), (v21 5), (v21 6), (v21 7), (v21 8), (v21 9), (v21 10), (v21 11)] ++ (us 55))) s_mx (by kernel_rfl) rfl (by decide) (by rfl) (by kernel_rfl) (by kernel_rfl) (by kernel_rfl) (by rfl) (fun v_ => by kernel_rfl) (fun v_ => by kernel_rfl) (fun _ => fun w_ w2_ h ho => by obtain ⟨r_a13, r_hN⟩ := h; exact ⟨r_a13.step0 ho, r_hN.step0 ho⟩) ⟨a13, hN⟩ ?_ ?_ ?_
  ·
   refine ls_cons ?_ ?_
   ·
    intro v21 lo hi w_ k_ hO hd _ _ hk_ _ hR hold
    obtain ⟨r_a13, r_hN⟩ := hR
    clear hd hold
    refine ⟨_, rfl, gd rfl ?_⟩
    exact Does.is (d_load (v := (ptr L.bN 0)) ⟨_, Try.underlying27, rfl⟩ rfl r_a13 rfl)
   refine ls_cons ?_ ?_
   ·
    intro v21 lo hi w_ k_ hO hd _ _ hk_ _ hR hold
    obtain ⟨r_a13, r_hN⟩ := hR
    clear hd hold
    refine ⟨_, rfl, gd rfl ?_⟩
    exact Does.is (d_load (v := (ptr L.bN 0)) ⟨_, Try.underlying27, rfl⟩ rfl r_a13 rfl)
   refine ls_cons ?_ ?_
   ·
    intro v21 lo hi w_ k_ hO hd _ _ hk_ _ hR hold
    obtain ⟨r_a13, r_hN⟩ := hR
    clear hd hold
    refine ⟨_, rfl, gd rfl ?_⟩
    exact Does.is (d_move rfl)
   refine ls_cons ?_ ?_
   ·
    intro v21 lo hi w_ k_ hO hd _ _ hk_ _ hR hold
    obtain ⟨r_a13, r_hN⟩ := hR
    clear hd hold
    refine ⟨_, rfl, gd rfl ?_⟩
    exact Does.is (d_move rfl)
   refine ls_cons ?_ ?_
   ·
    intro v21 lo hi w_ k_ hO hd _ _ hk_ _ hR hold
    obtain ⟨r_a13, r_hN⟩ := hR
    have e1 : v21 1 = (ptr L.bN 0) := hd 1 (by kernel_rfl)
    have e2 : v21 2 = (eN dn) := hd 2 (by kernel_rfl)
    have e3 : v21 3 = (eN bn) := hd 3 (by kernel_rfl)
    clear hd hold
    refine ⟨_, rfl, gd rfl ?_⟩
    exact d_call (xl := [.tmp 12, .tmp 13, .tmp 14]) (al := [(ptr L.bN 0), (eN dn), (eN bn)]) Try.func40 (by kernel_rfl) rfl (show ([(v21 1), (v21 2), (v21 3)] : List Value) = [(ptr L.bN 0), (eN dn), (eN bn)] from by rw [e1, e2, e3]) rfl (there_ok L s _ r_hN (r := true) ((dn : Nat) : Int) ((bn : Nat) : Int) k0)
   refine ls_cons ?_ ?_
   ·
    intro v21 lo hi w_ k_ hO hd _ _ hk_ _ hR hold
    obtain ⟨r_a13, r_hN⟩ := hR
    have e4 : v21 4 = (Value.bool true) := hd 4 (by kernel_rfl)
    clear hd hold
    refine ⟨_, rfl, gd rfl ?_⟩
    exact Does.is (d_move (v := (Value.bool true)) e4)
   refine ls_cons ?_ ?_
   ·
    intro v21 lo hi w_ k_ hO hd _ _ hk_ _ hR hold
    obtain ⟨r_a13, r_hN⟩ := hR
    have e5 : v21 5 = (Value.bool true) := hd 5 (by kernel_rfl)
    clear hd hold
    refine ⟨_, rfl, gd_on rfl rfl rfl (nb rfl) e5 ?_⟩
    exact Does.is (d_load (v := (ptr L.bN 0)) ⟨_, Try.underlying27, rfl⟩ rfl r_a13 rfl)
   refine ls_cons ?_ ?_
   ·
    intro v21 lo hi w_ k_ hO hd _ _ hk_ _ hR hold
    obtain ⟨r_a13, r_hN⟩ := hR
    have e5 : v21 5 = (Value.bool true) := hd 5 (by kernel_rfl)
    clear hd hold
    refine ⟨_, rfl, gd_on rfl rfl rfl (nb rfl) e5 ?_⟩
    exact Does.is (d_move rfl)
   refine ls_cons ?_ ?_
   ·
    intro v21 lo hi w_ k_ hO hd _ _ hk_ _ hR hold
    obtain ⟨r_a13, r_hN⟩ := hR
    have e5 : v21 5 = (Value.bool true) := hd 5 (by kernel_rfl)
    clear hd hold
    refine ⟨_, rfl, gd_on rfl rfl rfl (nb rfl) e5 ?_⟩
    exact Does.is (d_move rfl)
   refine ls_cons ?_ ?_
   ·
    intro v21 lo hi w_ k_ hO hd _ _ hk_ _ hR hold
    obtain ⟨r_a13, r_hN⟩ := hR
    have e5 : v21 5 = (Value.bool true) := hd 5 (by kernel_rfl)
    have e6 : v21 6 = (ptr L.bN 0) := hd 6 (by kernel_rfl)
    have e7 : v21 7 = (eN dn) := hd 7 (by kernel_rfl)
    have e8 : v21 8 = (eN bn) := hd 8 (by kernel_rfl)
    clear hd hold
    refine ⟨_, rfl, gd_on rfl rfl rfl (nb rfl) e5 ?_⟩
    exact d_call (xl := [.tmp 17, .tmp 18, .tmp 19]) (al := [(ptr L.bN 0), (eN dn), (eN bn)]) Try.func27 (by kernel_rfl) rfl (show ([(v21 6), (v21 7), (v21 8)] : List Value) = [(ptr L.bN 0), (eN dn), (eN bn)] from by rw [e6, e7, e8]) rfl (isBad_ok L s _ r_hN (r := false) ((dn : Nat) : Int) ((bn : Nat) : Int) (Bool.eq_false_iff.2 k1))
   refine ls_cons ?_ ?_
   ·
    intro v21 lo hi w_ k_ hO hd _ _ hk_ _ hR hold
    obtain ⟨r_a13, r_hN⟩ := hR
    have e5 : v21 5 = (Value.bool true) := hd 5 (by kernel_rfl)
    have e9 : v21 9 = (Value.bool false) := hd 9 (by kernel_rfl)
    clear hd hold
    refine ⟨_, rfl, gd_on rfl rfl rfl (nb rfl) e5 ?_⟩
    exact Does.is (d_not e9 rfl)
   refine ls_cons ?_ ?_
   ·
    intro v21 lo hi w_ k_ hO hd _ _ hk_ _ hR hold
    obtain ⟨r_a13, r_hN⟩ := hR
    have e10 : v21 10 = (Value.bool true) := hd 10 (by kernel_rfl)
    have e5 : v21 5 = (Value.bool true) := hd 5 (by kernel_rfl)
    clear hd hold
    refine ⟨_, rfl, gd rfl ?_⟩
    exact Does.is (d_pick (b := true) (v := (Value.bool true)) e5 e10)
   exact ls_nil
  ·
   exact ms_nil
  intro v21 lo_ hi_ w22 o23 hd iv_ hR
  have e0 : v21 0 = (ptr L.bN 0) := hd 0 (by decide)
  have e1 : v21 1 = (ptr L.bN 0) := hd 1 (by decide)
  have e2 : v21 2 = (eN dn) := hd 2 (by decide)
  have e3 : v21 3 = (eN bn) := hd 3 (by decide)
  have e4 : v21 4 = (Value.bool true) := hd 4 (by decide)
  have e5 : v21 5 = (Value.bool true) := hd 5 (by decide)
  have e6 : v21 6 = (ptr L.bN 0) := hd 6 (by decide)
  have e7 : v21 7 = (eN dn) := hd 7 (by decide)
  have e8 : v21 8 = (eN bn) := hd 8 (by decide)
  have e9 : v21 9 = (Value.bool false) := hd 9 (by decide)
  have e10 : v21 10 = (Value.bool true) := hd 10 (by decide)
  have e11 : v21 11 = (Value.bool true) := hd 11 (by decide)
  clear hd iv_ lo_ hi_
  refine wpL.flat ([(ptr L.bN 0), (eN dn), (eN bn), (ptr nbx 0), undef, undef, (eN 0), undef, undef, undef, undef, (ptr L.bN 0), (ptr L.bN 0), (eN dn), (eN bn), (Value.bool true), (Value.bool true), (ptr L.bN 0), (eN dn), (eN bn), (Value.bool false), (Value.bool true), (Value.bool true)] ++ (us 55)) (by rw [e0, e1, e2, e3, e4, e5, e6, e7, e8, e9, e10, e11] <;> rfl) ?_
  clear e0 e1 e2 e3 e4 e5 e6 e7 e8 e9 e10 e11
  obtain ⟨xr_a13, xr_hN⟩ := hR
  replace a13 : Arr 27 nbx [(ptr L.bN 0)] w22 := xr_a13
  replace hN := xr_hN
  clear xr_a13 xr_hN
  replace oW := oW.tail o23 (tl_new g_oW_nbx (tl_sin (fun k h => h) tl_no))
  refine wO (d_call (xl := [.tmp 11, .tmp 22]) (al := [(ptr L.bN 0), (Value.bool true)]) Try.func47 (by kernel_rfl) rfl rfl rfl (ask_ok L s _ hN (g := (s.eraseOk ((dn : Nat) : Int) ((bn : Nat) : Int))) true (by simp [NS.eraseOk, *]))) ?_
  rintro _ w24 ⟨rfl, a26, o25⟩
  replace a13 := a13.step o25 (hN.dis _ in1)
  replace oW := oW.tail o25 (fun k _ e => (fun k h => h) k e)
  replace hN := a26
  refine wI (d_assign rfl) ?_
  refine wF ([(ptr L.bN 0), (eN dn), (eN bn), (ptr nbx 0), undef, undef, (eN 0), (eN (s.askR (s.eraseOk ((dn : Nat) : Int) ((bn : Nat) : Int)))), undef, undef, undef, (ptr L.bN 0), (ptr L.bN 0), (eN dn), (eN bn), (Value.bool true), (Value.bool true), (ptr L.bN 0), (eN dn), (eN bn), (Value.bool false), (Value.bool true), (Value.bool true), (eN (s.askR (s.eraseOk ((dn : Nat) : Int) ((bn : Nat) : Int))))] ++ (us 54)) ?_
  refine wpL.done ?_
  refine then_n ?_
  refine wpIn_seq ?_
  refine plain ?_
  refine wI (d_move rfl) ?_
  refine wI (n_neq (a := (s.askR (s.eraseOk ((dn : Nat) : Int) ((bn : Nat) : Int)))) (b := 0) rfl rfl rfl) ?_
  refine wF ([(ptr L.bN 0), (eN dn), (eN bn), (ptr nbx 0), undef, undef, (eN 0), (eN (s.askR (s.eraseOk ((dn : Nat) : Int) ((bn : Nat) : Int)))), undef, undef, undef, (ptr L.bN 0), (ptr L.bN 0), (eN dn), (eN bn), (Value.bool true), (Value.bool true), (ptr L.bN 0), (eN dn), (eN bn), (Value.bool false), (Value.bool true), (Value.bool true), (eN (s.askR (s.eraseOk ((dn : Nat) : Int) ((bn : Nat) : Int)))), (eN (s.askR (s.eraseOk ((dn : Nat) : Int) ((bn : Nat) : Int)))), (Value.bool (!decide ((s.askR (s.eraseOk ((dn : Nat) : Int) ((bn : Nat) : Int))) = 0)))] ++ (us 52)) ?_
  refine wpL.done ?_
  refine then_n ?_
  refine cond_un rfl (fun c0 => ?_) (fun c0 => ?_)
  ·
   refine wpIn_seq ?_
   refine plain ?_
   refine wI (d_move rfl) ?_
   refine wI (d_assign rfl) ?_
   refine wF ([(ptr L.bN 0), (eN dn), (eN bn), (ptr nbx 0), undef, undef, (eN (s.askR (s.eraseOk ((dn : Nat) : Int) ((bn : Nat) : Int)))), (eN (s.askR (s.eraseOk ((dn : Nat) : Int) ((bn : Nat) : Int)))), undef, undef, undef, (ptr L.bN 0), (ptr L.bN 0), (eN dn), (eN bn), (Value.bool true), (Value.bool true), (ptr L.bN 0), (eN dn), (eN bn), (Value.bool false), (Value.bool true), (Value.bool true), (eN (s.askR (s.eraseOk ((dn : Nat) : Int) ((bn : Nat) : Int)))), (eN (s.askR (s.eraseOk ((dn : Nat) : Int) ((bn : Nat) : Int)))), (Value.bool (!decide ((s.askR (s.eraseOk ((dn : Nat) : Int) ((bn : Nat) : Int))) = 0))), (eN (s.askR (s.eraseOk ((dn : Nat) : Int) ((bn : Nat) : Int))))] ++ (us 51)) ?_
   refine wpL.done ?_
   refine then_n ?_
   refine wpIn_ret ?_
   refine then_r ?_
   refine leave0 (v := (eN (s.askR (s.eraseOk ((dn : Nat) : Int) ((bn : Nat) : Int))))) (res1 Try.results23 rfl) ?_
   obtain ⟨e1_, e2_⟩ := NS.erase_no c0; exact ⟨congrArg eN e2_.symm, e1_ ▸ (hN.less (xx_skip xx_id)), oW⟩
  refine wpIn_skip ?_
  refine then_n ?_
  refine wpIn_seq ?_
  refine plain ?_
  refine wI (d_load (v := (ptr L.bN 0)) ⟨_, Try.underlying27, rfl⟩ rfl a13 rfl) ?_
  refine wI (d_nilCheck (b := L.bN) (o := 0) rfl) ?_
  refine wI (d_fieldAddr (j := 11) Try.underlying73 rfl s_ti71 (by decide) rfl rfl) ?_
  refine wF ([(ptr L.bN 0), (eN dn), (eN bn), (ptr nbx 0), undef, undef, (eN 0), (eN (s.askR (s.eraseOk ((dn : Nat) : Int) ((bn : Nat) : Int)))), undef, undef, undef, (ptr L.bN 0), (ptr L.bN 0), (eN dn), (eN bn), (Value.bool true), (Value.bool true), (ptr L.bN 0), (eN dn), (eN bn), (Value.bool false), (Value.bool true), (Value.bool true), (eN (s.askR (s.eraseOk ((dn : Nat) : Int) ((bn : Nat) : Int)))), (eN (s.askR (s.eraseOk ((dn : Nat) : Int) ((bn : Nat) : Int)))), (Value.bool (!decide ((s.askR (s.eraseOk ((dn : Nat) : Int) ((bn : Nat) : Int))) = 0))), undef, (ptr L.bN 0), (ptr L.bN 0), (ptr L.bN 11)] ++ (us 48)) ?_
  refine wI (nd_ld (v := L.ub) hN ⟨_, Try.underlying71, rfl⟩ rfl (fun _ => rfl)) ?_
  refine wI (d_move rfl) ?_
  refine wI (nd_ixU (i := dn) hN Try.underlying71 s_ti75 rfl (show _ = Value.int _ ((dn : Nat) : Int) from rfl) hd1) ?_
  refine wF ([(ptr L.bN 0), (eN dn), (eN bn), (ptr nbx 0), undef, undef, (eN 0), (eN (s.askR (s.eraseOk ((dn : Nat) : Int) ((bn : Nat) : Int)))), undef, undef, undef, (ptr L.bN 0), (ptr L.bN 0), (eN dn), (eN bn), (Value.bool true), (Value.bool true), (ptr L.bN 0), (eN dn), (eN bn), (Value.bool false), (Value.bool true), (Value.bool true), (eN (s.askR (s.eraseOk ((dn : Nat) : Int) ((bn : Nat) : Int)))), (eN (s.askR (s.eraseOk ((dn : Nat) : Int) ((bn : Nat) : Int)))), (Value.bool (!decide ((s.askR (s.eraseOk ((dn : Nat) : Int) ((bn : Nat) : Int))) = 0))), undef, (ptr L.bN 0), (ptr L.bN 0), (ptr L.bN 11), L.ub, (eN dn), (ixp L.ub dn)] ++ (us 45)) ?_
  refine wI (nd_ldU (i := dn) hN ⟨_, Try.underlying75, rfl⟩ rfl hd1) ?_
  refine wI (d_move rfl) ?_
  refine wI (d_index (b := (L.bk.getD dn 0)) (o := 0) (n := ((s.ask (s.eraseOk ((dn : Nat) : Int) ((bn : Nat) : Int))).gB)) (c := ((s.ask (s.eraseOk ((dn : Nat) : Int) ((bn : Nat) : Int))).gB)) (j := (bn * 3)) Try.underlying75 s_ti77 rfl (show _ = Value.int _ ((bn : Nat) : Int) from rfl) (by omega) (Int.ofNat_lt.2 hb1) (by simp)) ?_
  refine wF ([(ptr L.bN 0), (eN dn), (eN bn), (ptr nbx 0), undef, undef, (eN 0), (eN (s.askR (s.eraseOk ((dn : Nat) : Int) ((bn : Nat) : Int)))), undef, undef, undef, (ptr L.bN 0), (ptr L.bN 0), (eN dn), (eN bn), (Value.bool true), (Value.bool true), (ptr L.bN 0), (eN dn), (eN bn), (Value.bool false), (Value.bool true), (Value.bool true), (eN (s.askR (s.eraseOk ((dn : Nat) : Int) ((bn : Nat) : Int)))), (eN (s.askR (s.eraseOk ((dn : Nat) : Int) ((bn : Nat) : Int)))), (Value.bool (!decide ((s.askR (s.eraseOk ((dn : Nat) : Int) ((bn : Nat) : Int))) = 0))), undef, (ptr L.bN 0), (ptr L.bN 0), (ptr L.bN 11), L.ub, (eN dn), (ixp L.ub dn), (sli (L.bk.getD dn 0) 0 ((s.ask (s.eraseOk ((dn : Nat) : Int) ((bn : Nat) : Int))).gB) ((s.ask (s.eraseOk ((dn : Nat) : Int) ((bn : Nat) : Int))).gB)), (eN bn), (ptr (L.bk.getD dn 0) (bn * 3))] ++ (us 42)) ?_
  refine wI (d_fieldAddr (j := bn * 3 + 1) Try.underlying77 rfl s_ti3 (by decide) rfl rfl) ?_
  refine wI (nd_ldS (i := dn) (j := bn) (f := 1) hN ⟨_, Try.underlying3, rfl⟩ rfl hd1 hb1 (by decide) rfl) ?_
  refine wI (d_add (k := .i64) (m := ((s.ask (s.eraseOk ((dn : Nat) : Int) ((bn : Nat) : Int))).bl dn bn).er) (n := 1) rfl rfl rfl) ?_
  refine wF ([(ptr L.bN 0), (eN dn), (eN bn), (ptr nbx 0), undef, undef, (eN 0), (eN (s.askR (s.eraseOk ((dn : Nat) : Int) ((bn : Nat) : Int)))), undef, undef, undef, (ptr L.bN 0), (ptr L.bN 0), (eN dn), (eN bn), (Value.bool true), (Value.bool true), (ptr L.bN 0), (eN dn), (eN bn), (Value.bool false), (Value.bool true), (Value.bool true), (eN (s.askR (s.eraseOk ((dn : Nat) : Int) ((bn : Nat) : Int)))), (eN (s.askR (s.eraseOk ((dn : Nat) : Int) ((bn : Nat) : Int)))), (Value.bool (!decide ((s.askR (s.eraseOk ((dn : Nat) : Int) ((bn : Nat) : Int))) = 0))), undef, (ptr L.bN 0), (ptr L.bN 0), (ptr L.bN 11), L.ub, (eN dn), (ixp L.ub dn), (sli (L.bk.getD dn 0) 0 ((s.ask (s.eraseOk ((dn : Nat) : Int) ((bn : Nat) : Int))).gB) ((s.ask (s.eraseOk ((dn : Nat) : Int) ((bn : Nat) : Int))).gB)), (eN bn), (ptr (L.bk.getD dn 0) (bn * 3)), (ptr (L.bk.getD dn 0) (bn * 3 + 1)), (eI (((s.ask (s.eraseOk ((dn : Nat) : Int) ((bn : Nat) : Int))).bl dn bn).er)), (eI (IntKind.i64.wrap (((s.ask (s.eraseOk ((dn : Nat) : Int) ((bn : Nat) : Int))).bl dn bn).er + 1)))] ++ (us 39)) ?_
  refine wI (d_index (b := (L.bk.getD dn 0)) (o := 0) (n := ((s.ask (s.eraseOk ((dn : Nat) : Int) ((bn : Nat) : Int))).gB)) (c := ((s.ask (s.eraseOk ((dn : Nat) : Int) ((bn : Nat) : Int))).gB)) (j := (bn * 3)) Try.underlying75 s_ti77 rfl (show _ = Value.int _ ((bn : Nat) : Int) from rfl) (by omega) (Int.ofNat_lt.2 hb1) (by simp)) ?_
  refine wI (d_fieldAddr (j := bn * 3 + 1) Try.underlying77 rfl s_ti3 (by decide) rfl rfl) ?_
  refine wO (nd_stS (i := dn) (j := bn) (f := 1) (x' := { (s.ask (s.eraseOk ((dn : Nat) : Int) ((bn : Nat) : Int))).bl dn bn with er := IntKind.i64.wrap (((s.ask (s.eraseOk ((dn : Nat) : Int) ((bn : Nat) : Int))).bl dn bn).er + 1) }) hN s_ti3 rfl rfl rfl hd1 hb1 (by decide) rfl (hN.ok.nx _ _)) ?_
  rintro _ w27 ⟨a28, o29⟩
  replace a13 := a13.step o29 (hN.dis _ in1)
  replace oW := oW.tail o29 (fun k _ e => (fun k h => h) k e)
  replace hN := a28
  refine wF ([(ptr L.bN 0), (eN dn), (eN bn), (ptr nbx 0), undef, undef, (eN 0), (eN (s.askR (s.eraseOk ((dn : Nat) : Int) ((bn : Nat) : Int)))), undef, undef, undef, (ptr L.bN 0), (ptr L.bN 0), (eN dn), (eN bn), (Value.bool true), (Value.bool true), (ptr L.bN 0), (eN dn), (eN bn), (Value.bool false), (Value.bool true), (Value.bool true), (eN (s.askR (s.eraseOk ((dn : Nat) : Int) ((bn : Nat) : Int)))), (eN (s.askR (s.eraseOk ((dn : Nat) : Int) ((bn : Nat) : Int)))), (Value.bool (!decide ((s.askR (s.eraseOk ((dn : Nat) : Int) ((bn : Nat) : Int))) = 0))), undef, (ptr L.bN 0), (ptr L.bN 0), (ptr L.bN 11), L.ub, (eN dn), (ixp L.ub dn), (sli (L.bk.getD dn 0) 0 ((s.ask (s.eraseOk ((dn : Nat) : Int) ((bn : Nat) : Int))).gB) ((s.ask (s.eraseOk ((dn : Nat) : Int) ((bn : Nat) : Int))).gB)), (eN bn), (ptr (L.bk.getD dn 0) (bn * 3)), (ptr (L.bk.getD dn 0) (bn * 3 + 1)), (eI (((s.ask (s.eraseOk ((dn : Nat) : Int) ((bn : Nat) : Int))).bl dn bn).er)), (eI (IntKind.i64.wrap (((s.ask (s.eraseOk ((dn : Nat) : Int) ((bn : Nat) : Int))).bl dn bn).er + 1))), (ptr (L.bk.getD dn 0) (bn * 3)), (ptr (L.bk.getD dn 0) (bn * 3 + 1))] ++ (us 37)) ?_
  refine wpL.done ?_
  refine then_n ?_
  refine wpIn_seq ?_
  refine plain ?_
  refine wI (d_load (v := (ptr L.bN 0)) ⟨_, Try.underlying27, rfl⟩ rfl a13 rfl) ?_
  refine wO (d_call (xl := [.tmp 41]) (al := [(ptr L.bN 0)]) Try.func49 (by kernel_rfl) rfl rfl rfl (goes_ok L ((s.ask (s.eraseOk ((dn : Nat) : Int) ((bn : Nat) : Int))).setB dn bn { (s.ask (s.eraseOk ((dn : Nat) : Int) ((bn : Nat) : Int))).bl dn bn with er := IntKind.i64.wrap (((s.ask (s.eraseOk ((dn : Nat) : Int) ((bn : Nat) : Int))).bl dn bn).er + 1) }) _ hN)) ?_
  rintro _ w30 ⟨rfl, a32, o31⟩
  replace a13 := a13.step o31 (hN.dis _ in1)
  replace oW := oW.tail o31 (fun k _ e => (fun k h => h) k e)
  replace hN := a32
  refine wO (d_alloc s_ti4 rfl) ?_
  rintro _ w33 ⟨tb, rfl, g34, a35, o36⟩
  have n_nbx_tb : nbx ≠ tb := a13.ne g34
  have g_oW_tb : W.heap.size ≤ tb := Nat.le_trans oW.size g34
  replace hN := hN.new o36 g34
  replace a13 := a13.step0 o36
  replace oW := oW.tail0 o36
  refine wF ([(ptr L.bN 0), (eN dn), (eN bn), (ptr nbx 0), undef, undef, (eN 0), (eN (s.askR (s.eraseOk ((dn : Nat) : Int) ((bn : Nat) : Int)))), (ptr tb 0), undef, undef, (ptr L.bN 0), (ptr L.bN 0), (eN dn), (eN bn), (Value.bool true), (Value.bool true), (ptr L.bN 0), (eN dn), (eN bn), (Value.bool false), (Value.bool true), (Value.bool true), (eN (s.askR (s.eraseOk ((dn : Nat) : Int) ((bn : Nat) : Int)))), (eN (s.askR (s.eraseOk ((dn : Nat) : Int) ((bn : Nat) : Int)))), (Value.bool (!decide ((s.askR (s.eraseOk ((dn : Nat) : Int) ((bn : Nat) : Int))) = 0))), undef, (ptr L.bN 0), (ptr L.bN 0), (ptr L.bN 11), L.ub, (eN dn), (ixp L.ub dn), (sli (L.bk.getD dn 0) 0 ((s.ask (s.eraseOk ((dn : Nat) : Int) ((bn : Nat) : Int))).gB) ((s.ask (s.eraseOk ((dn : Nat) : Int) ((bn : Nat) : Int))).gB)), (eN bn), (ptr (L.bk.getD dn 0) (bn * 3)), (ptr (L.bk.getD dn 0) (bn * 3 + 1)), (eI (((s.ask (s.eraseOk ((dn : Nat) : Int) ((bn : Nat) : Int))).bl dn bn).er)), (eI (IntKind.i64.wrap (((s.ask (s.eraseOk ((dn : Nat) : Int) ((bn : Nat) : Int))).bl dn bn).er + 1))), (ptr (L.bk.getD dn 0) (bn * 3)), (ptr (L.bk.getD dn 0) (bn * 3 + 1)), (ptr L.bN 0), (Value.bool (((s.ask (s.eraseOk ((dn : Nat) : Int) ((bn : Nat) : Int))).setB dn bn { (s.ask (s.eraseOk ((dn : Nat) : Int) ((bn : Nat) : Int))).bl dn bn with er := IntKind.i64.wrap (((s.ask (s.eraseOk ((dn : Nat) : Int) ((bn : Nat) : Int))).bl dn bn).er + 1) }).goesR))] ++ (us 35)) ?_
  refine wO (d_store s_ti4 rfl rfl rfl a35 (nb rfl) rfl) ?_
  rintro _ w37 ⟨a38, o39⟩
  replace hN := hN.stepb o39 in1
  replace a13 := a13.step o39 (fun e => absurd e n_nbx_tb)
  replace oW := oW.tailb o39 g_oW_tb
  refine wF ([(ptr L.bN 0), (eN dn), (eN bn), (ptr nbx 0), undef, undef, (eN 0), (eN (s.askR (s.eraseOk ((dn : Nat) : Int) ((bn : Nat) : Int)))), (ptr tb 0), undef, undef, (ptr L.bN 0), (ptr L.bN 0), (eN dn), (eN bn), (Value.bool true), (Value.bool true), (ptr L.bN 0), (eN dn), (eN bn), (Value.bool false), (Value.bool true), (Value.bool true), (eN (s.askR (s.eraseOk ((dn : Nat) : Int) ((bn : Nat) : Int)))), (eN (s.askR (s.eraseOk ((dn : Nat) : Int) ((bn : Nat) : Int)))), (Value.bool (!decide ((s.askR (s.eraseOk ((dn : Nat) : Int) ((bn : Nat) : Int))) = 0))), undef, (ptr L.bN 0), (ptr L.bN 0), (ptr L.bN 11), L.ub, (eN dn), (ixp L.ub dn), (sli (L.bk.getD dn 0) 0 ((s.ask (s.eraseOk ((dn : Nat) : Int) ((bn : Nat) : Int))).gB) ((s.ask (s.eraseOk ((dn : Nat) : Int) ((bn : Nat) : Int))).gB)), (eN bn), (ptr (L.bk.getD dn 0) (bn * 3)), (ptr (L.bk.getD dn 0) (bn * 3 + 1)), (eI (((s.ask (s.eraseOk ((dn : Nat) : Int) ((bn : Nat) : Int))).bl dn bn).er)), (eI (IntKind.i64.wrap (((s.ask (s.eraseOk ((dn : Nat) : Int) ((bn : Nat) : Int))).bl dn bn).er + 1))), (ptr (L.bk.getD dn 0) (bn * 3)), (ptr (L.bk.getD dn 0) (bn * 3 + 1)), (ptr L.bN 0), (Value.bool (((s.ask (s.eraseOk ((dn : Nat) : Int) ((bn : Nat) : Int))).setB dn bn { (s.ask (s.eraseOk ((dn : Nat) : Int) ((bn : Nat) : Int))).bl dn bn with er := IntKind.i64.wrap (((s.ask (s.eraseOk ((dn : Nat) : Int) ((bn : Nat) : Int))).bl dn bn).er + 1) }).goesR))] ++ (us 35)) ?_
  refine wpL.done ?_
  refine then_n ?_
  refine wpIn_seq ?_
  refine wpIn_seq ?_
  refine plain ?_
  refine wI (d_load (v := (ptr L.bN 0)) ⟨_, Try.underlying27, rfl⟩ rfl a13 rfl) ?_
  refine wI (d_nilCheck (b := L.bN) (o := 0) rfl) ?_
  refine wI (d_fieldAddr (j := 3) Try.underlying73 rfl s_ti65 (by decide) rfl rfl) ?_
  refine wF ([(ptr L.bN 0), (eN dn), (eN bn), (ptr nbx 0), undef, undef, (eN 0), (eN (s.askR (s.eraseOk ((dn : Nat) : Int) ((bn : Nat) : Int)))), (ptr tb 0), undef, undef, (ptr L.bN 0), (ptr L.bN 0), (eN dn), (eN bn), (Value.bool true), (Value.bool true), (ptr L.bN 0), (eN dn), (eN bn), (Value.bool false), (Value.bool true), (Value.bool true), (eN (s.askR (s.eraseOk ((dn : Nat) : Int) ((bn : Nat) : Int)))), (eN (s.askR (s.eraseOk ((dn : Nat) : Int) ((bn : Nat) : Int)))), (Value.bool (!decide ((s.askR (s.eraseOk ((dn : Nat) : Int) ((bn : Nat) : Int))) = 0))), undef, (ptr L.bN 0), (ptr L.bN 0), (ptr L.bN 11), L.ub, (eN dn), (ixp L.ub dn), (sli (L.bk.getD dn 0) 0 ((s.ask (s.eraseOk ((dn : Nat) : Int) ((bn : Nat) : Int))).gB) ((s.ask (s.eraseOk ((dn : Nat) : Int) ((bn : Nat) : Int))).gB)), (eN bn), (ptr (L.bk.getD dn 0) (bn * 3)), (ptr (L.bk.getD dn 0) (bn * 3 + 1)), (eI (((s.ask (s.eraseOk ((dn : Nat) : Int) ((bn : Nat) : Int))).bl dn bn).er)), (eI (IntKind.i64.wrap (((s.ask (s.eraseOk ((dn : Nat) : Int) ((bn : Nat) : Int))).bl dn bn).er + 1))), (ptr (L.bk.getD dn 0) (bn * 3)), (ptr (L.bk.getD dn 0) (bn * 3 + 1)), (ptr L.bN 0), (Value.bool (((s.ask (s.eraseOk ((dn : Nat) : Int) ((bn : Nat) : Int))).setB dn bn { (s.ask (s.eraseOk ((dn : Nat) : Int) ((bn : Nat) : Int))).bl dn bn with er := IntKind.i64.wrap (((s.ask (s.eraseOk ((dn : Nat) : Int) ((bn : Nat) : Int))).bl dn bn).er + 1) }).goesR)), (ptr L.bN 0), (ptr L.bN 0), (ptr L.bN 3)] ++ (us 32)) ?_
  refine wI (nd_ldAg (vs := [(eN ((((s.ask (s.eraseOk ((dn : Nat) : Int) ((bn : Nat) : Int))).setB dn bn { (s.ask (s.eraseOk ((dn : Nat) : Int) ((bn : Nat) : Int))).bl dn bn with er := IntKind.i64.wrap (((s.ask (s.eraseOk ((dn : Nat) : Int) ((bn : Nat) : Int))).bl dn bn).er + 1) }).goes).gD)), (eN ((((s.ask (s.eraseOk ((dn : Nat) : Int) ((bn : Nat) : Int))).setB dn bn { (s.ask (s.eraseOk ((dn : Nat) : Int) ((bn : Nat) : Int))).bl dn bn with er := IntKind.i64.wrap (((s.ask (s.eraseOk ((dn : Nat) : Int) ((bn : Nat) : Int))).bl dn bn).er + 1) }).goes).gB)), (eN ((((s.ask (s.eraseOk ((dn : Nat) : Int) ((bn : Nat) : Int))).setB dn bn { (s.ask (s.eraseOk ((dn : Nat) : Int) ((bn : Nat) : Int))).bl dn bn with er := IntKind.i64.wrap (((s.ask (s.eraseOk ((dn : Nat) : Int) ((bn : Nat) : Int))).bl dn bn).er + 1) }).goes).gP)), (sli L.bD 0 ((((s.ask (s.eraseOk ((dn : Nat) : Int) ((bn : Nat) : Int))).setB dn bn { (s.ask (s.eraseOk ((dn : Nat) : Int) ((bn : Nat) : Int))).bl dn bn with er := IntKind.i64.wrap (((s.ask (s.eraseOk ((dn : Nat) : Int) ((bn : Nat) : Int))).bl dn bn).er + 1) }).goes).n) ((((s.ask (s.eraseOk ((dn : Nat) : Int) ((bn : Nat) : Int))).setB dn bn { (s.ask (s.eraseOk ((dn : Nat) : Int) ((bn : Nat) : Int))).bl dn bn with er := IntKind.i64.wrap (((s.ask (s.eraseOk ((dn : Nat) : Int) ((bn : Nat) : Int))).bl dn bn).er + 1) }).goes).n))]) hN ⟨_, Try.underlying65, rfl⟩ s_ti65 rfl (fun _ => rfl) rfl) ?_
  refine wI (d_move rfl) ?_
  refine wI (d_move rfl) ?_
  refine wF ([(ptr L.bN 0), (eN dn), (eN bn), (ptr nbx 0), undef, undef, (eN 0), (eN (s.askR (s.eraseOk ((dn : Nat) : Int) ((bn : Nat) : Int)))), (ptr tb 0), undef, undef, (ptr L.bN 0), (ptr L.bN 0), (eN dn), (eN bn), (Value.bool true), (Value.bool true), (ptr L.bN 0), (eN dn), (eN bn), (Value.bool false), (Value.bool true), (Value.bool true), (eN (s.askR (s.eraseOk ((dn : Nat) : Int) ((bn : Nat) : Int)))), (eN (s.askR (s.eraseOk ((dn : Nat) : Int) ((bn : Nat) : Int)))), (Value.bool (!decide ((s.askR (s.eraseOk ((dn : Nat) : Int) ((bn : Nat) : Int))) = 0))), undef, (ptr L.bN 0), (ptr L.bN 0), (ptr L.bN 11), L.ub, (eN dn), (ixp L.ub dn), (sli (L.bk.getD dn 0) 0 ((s.ask (s.eraseOk ((dn : Nat) : Int) ((bn : Nat) : Int))).gB) ((s.ask (s.eraseOk ((dn : Nat) : Int) ((bn : Nat) : Int))).gB)), (eN bn), (ptr (L.bk.getD dn 0) (bn * 3)), (ptr (L.bk.getD dn 0) (bn * 3 + 1)), (eI (((s.ask (s.eraseOk ((dn : Nat) : Int) ((bn : Nat) : Int))).bl dn bn).er)), (eI (IntKind.i64.wrap (((s.ask (s.eraseOk ((dn : Nat) : Int) ((bn : Nat) : Int))).bl dn bn).er + 1))), (ptr (L.bk.getD dn 0) (bn * 3)), (ptr (L.bk.getD dn 0) (bn * 3 + 1)), (ptr L.bN 0), (Value.bool (((s.ask (s.eraseOk ((dn : Nat) : Int) ((bn : Nat) : Int))).setB dn bn { (s.ask (s.eraseOk ((dn : Nat) : Int) ((bn : Nat) : Int))).bl dn bn with er := IntKind.i64.wrap (((s.ask (s.eraseOk ((dn : Nat) : Int) ((bn : Nat) : Int))).bl dn bn).er + 1) }).goesR)), (ptr L.bN 0), (ptr L.bN 0), (ptr L.bN 3), (Value.agg #[(eN ((((s.ask (s.eraseOk ((dn : Nat) : Int) ((bn : Nat) : Int))).setB dn bn { (s.ask (s.eraseOk ((dn : Nat) : Int) ((bn : Nat) : Int))).bl dn bn with er := IntKind.i64.wrap (((s.ask (s.eraseOk ((dn : Nat) : Int) ((bn : Nat) : Int))).bl dn bn).er + 1) }).goes).gD)), (eN ((((s.ask (s.eraseOk ((dn : Nat) : Int) ((bn : Nat) : Int))).setB dn bn { (s.ask (s.eraseOk ((dn : Nat) : Int) ((bn : Nat) : Int))).bl dn bn with er := IntKind.i64.wrap (((s.ask (s.eraseOk ((dn : Nat) : Int) ((bn : Nat) : Int))).bl dn bn).er + 1) }).goes).gB)), (eN ((((s.ask (s.eraseOk ((dn : Nat) : Int) ((bn : Nat) : Int))).setB dn bn { (s.ask (s.eraseOk ((dn : Nat) : Int) ((bn : Nat) : Int))).bl dn bn with er := IntKind.i64.wrap (((s.ask (s.eraseOk ((dn : Nat) : Int) ((bn : Nat) : Int))).bl dn bn).er + 1) }).goes).gP)), (sli L.bD 0 ((((s.ask (s.eraseOk ((dn : Nat) : Int) ((bn : Nat) : Int))).setB dn bn { (s.ask (s.eraseOk ((dn : Nat) : Int) ((bn : Nat) : Int))).bl dn bn with er := IntKind.i64.wrap (((s.ask (s.eraseOk ((dn : Nat) : Int) ((bn : Nat) : Int))).bl dn bn).er + 1) }).goes).n) ((((s.ask (s.eraseOk ((dn : Nat) : Int) ((bn : Nat) : Int))).setB dn bn { (s.ask (s.eraseOk ((dn : Nat) : Int) ((bn : Nat) : Int))).bl dn bn with er := IntKind.i64.wrap (((s.ask (s.eraseOk ((dn : Nat) : Int) ((bn : Nat) : Int))).bl dn bn).er + 1) }).goes).n))]), (eN dn), (eN bn)] ++ (us 29)) ?_
  refine wO (d_call (xl := [.tmp 46, .tmp 47, .tmp 48]) (al := [(Value.agg #[(eN ((((s.ask (s.eraseOk ((dn : Nat) : Int) ((bn : Nat) : Int))).setB dn bn { (s.ask (s.eraseOk ((dn : Nat) : Int) ((bn : Nat) : Int))).bl dn bn with er := IntKind.i64.wrap (((s.ask (s.eraseOk ((dn : Nat) : Int) ((bn : Nat) : Int))).bl dn bn).er + 1) }).goes).gD)), (eN ((((s.ask (s.eraseOk ((dn : Nat) : Int) ((bn : Nat) : Int))).setB dn bn { (s.ask (s.eraseOk ((dn : Nat) : Int) ((bn : Nat) : Int))).bl dn bn with er := IntKind.i64.wrap (((s.ask (s.eraseOk ((dn : Nat) : Int) ((bn : Nat) : Int))).bl dn bn).er + 1) }).goes).gB)), (eN ((((s.ask (s.eraseOk ((dn : Nat) : Int) ((bn : Nat) : Int))).setB dn bn { (s.ask (s.eraseOk ((dn : Nat) : Int) ((bn : Nat) : Int))).bl dn bn with er := IntKind.i64.wrap (((s.ask (s.eraseOk ((dn : Nat) : Int) ((bn : Nat) : Int))).bl dn bn).er + 1) }).goes).gP)), (sli L.bD 0 ((((s.ask (s.eraseOk ((dn : Nat) : Int) ((bn : Nat) : Int))).setB dn bn { (s.ask (s.eraseOk ((dn : Nat) : Int) ((bn : Nat) : Int))).bl dn bn with er := IntKind.i64.wrap (((s.ask (s.eraseOk ((dn : Nat) : Int) ((bn : Nat) : Int))).bl dn bn).er + 1) }).goes).n) ((((s.ask (s.eraseOk ((dn : Nat) : Int) ((bn : Nat) : Int))).setB dn bn { (s.ask (s.eraseOk ((dn : Nat) : Int) ((bn : Nat) : Int))).bl dn bn with er := IntKind.i64.wrap (((s.ask (s.eraseOk ((dn : Nat) : Int) ((bn : Nat) : Int))).bl dn bn).er + 1) }).goes).n))]), (eN dn), (eN bn)]) Try.func53 (by kernel_rfl) rfl rfl rfl (blockI_ok (((s.ask (s.eraseOk ((dn : Nat) : Int) ((bn : Nat) : Int))).setB dn bn { (s.ask (s.eraseOk ((dn : Nat) : Int) ((bn : Nat) : Int))).bl dn bn with er := IntKind.i64.wrap (((s.ask (s.eraseOk ((dn : Nat) : Int) ((bn : Nat) : Int))).bl dn bn).er + 1) }).goes) L.bD dn bn _)) ?_
  rintro _ w40 ⟨b42, b43, b44, rfl, g45, g46, g47, n51, n52, n53, a48, a49, a50, o41⟩
  have n_nbx_b42 : nbx ≠ b42 := a13.ne g45
  have n_tb_b42 : tb ≠ b42 := a38.ne g45
  have g_oW_b42 : W.heap.size ≤ b42 := Nat.le_trans oW.size g45
  replace hN := Nd.less (Y := Or1 b42 (Or1 tb (Or1 nbx X))) hN (xx_new g45 xx_id)
  have n_nbx_b43 : nbx ≠ b43 := a13.ne g46
  have n_tb_b43 : tb ≠ b43 := a38.ne g46
  have g_oW_b43 : W.heap.size ≤ b43 := Nat.le_trans oW.size g46
  replace hN := Nd.less (Y := Or1 b43 (Or1 b42 (Or1 tb (Or1 nbx X)))) hN (xx_new g46 xx_id)
  have n_b42_b43 : b42 ≠ b43 := n51
  have n_b42_b44 : b42 ≠ b44 := n52
  have n_b43_b44 : b43 ≠ b44 := n53
  have n_nbx_b44 : nbx ≠ b44 := a13.ne g47
  have n_tb_b44 : tb ≠ b44 := a38.ne g47
  have g_oW_b44 : W.heap.size ≤ b44 := Nat.le_trans oW.size g47
  replace hN := hN.new o41 g47
  replace a13 := a13.step0 o41
  replace a38 := a38.step0 o41
  replace oW := oW.tail0 o41
  refine wF ([(ptr L.bN 0), (eN dn), (eN bn), (ptr nbx 0), undef, undef, (eN 0), (eN (s.askR (s.eraseOk ((dn : Nat) : Int) ((bn : Nat) : Int)))), (ptr tb 0), undef, undef, (ptr L.bN 0), (ptr L.bN 0), (eN dn), (eN bn), (Value.bool true), (Value.bool true), (ptr L.bN 0), (eN dn), (eN bn), (Value.bool false), (Value.bool true), (Value.bool true), (eN (s.askR (s.eraseOk ((dn : Nat) : Int) ((bn : Nat) : Int)))), (eN (s.askR (s.eraseOk ((dn : Nat) : Int) ((bn : Nat) : Int)))), (Value.bool (!decide ((s.askR (s.eraseOk ((dn : Nat) : Int) ((bn : Nat) : Int))) = 0))), undef, (ptr L.bN 0), (ptr L.bN 0), (ptr L.bN 11), L.ub, (eN dn), (ixp L.ub dn), (sli (L.bk.getD dn 0) 0 ((s.ask (s.eraseOk ((dn : Nat) : Int) ((bn : Nat) : Int))).gB) ((s.ask (s.eraseOk ((dn : Nat) : Int) ((bn : Nat) : Int))).gB)), (eN bn), (ptr (L.bk.getD dn 0) (bn * 3)), (ptr (L.bk.getD dn 0) (bn * 3 + 1)), (eI (((s.ask (s.eraseOk ((dn : Nat) : Int) ((bn : Nat) : Int))).bl dn bn).er)), (eI (IntKind.i64.wrap (((s.ask (s.eraseOk ((dn : Nat) : Int) ((bn : Nat) : Int))).bl dn bn).er + 1))), (ptr (L.bk.getD dn 0) (bn * 3)), (ptr (L.bk.getD dn 0) (bn * 3 + 1)), (ptr L.bN 0), (Value.bool (((s.ask (s.eraseOk ((dn : Nat) : Int) ((bn : Nat) : Int))).setB dn bn { (s.ask (s.eraseOk ((dn : Nat) : Int) ((bn : Nat) : Int))).bl dn bn with er := IntKind.i64.wrap (((s.ask (s.eraseOk ((dn : Nat) : Int) ((bn : Nat) : Int))).bl dn bn).er + 1) }).goesR)), (ptr L.bN 0), (ptr L.bN 0), (ptr L.bN 3), (Value.agg #[(eN ((((s.ask (s.eraseOk ((dn : Nat) : Int) ((bn : Nat) : Int))).setB dn bn { (s.ask (s.eraseOk ((dn : Nat) : Int) ((bn : Nat) : Int))).bl dn bn with er := IntKind.i64.wrap (((s.ask (s.eraseOk ((dn : Nat) : Int) ((bn : Nat) : Int))).bl dn bn).er + 1) }).goes).gD)), (eN ((((s.ask (s.eraseOk ((dn : Nat) : Int) ((bn : Nat) : Int))).setB dn bn { (s.ask (s.eraseOk ((dn : Nat) : Int) ((bn : Nat) : Int))).bl dn bn with er := IntKind.i64.wrap (((s.ask (s.eraseOk ((dn : Nat) : Int) ((bn : Nat) : Int))).bl dn bn).er + 1) }).goes).gB)), (eN ((((s.ask (s.eraseOk ((dn : Nat) : Int) ((bn : Nat) : Int))).setB dn bn { (s.ask (s.eraseOk ((dn : Nat) : Int) ((bn : Nat) : Int))).bl dn bn with er := IntKind.i64.wrap (((s.ask (s.eraseOk ((dn : Nat) : Int) ((bn : Nat) : Int))).bl dn bn).er + 1) }).goes).gP)), (sli L.bD 0 ((((s.ask (s.eraseOk ((dn : Nat) : Int) ((bn : Nat) : Int))).setB dn bn { (s.ask (s.eraseOk ((dn : Nat) : Int) ((bn : Nat) : Int))).bl dn bn with er := IntKind.i64.wrap (((s.ask (s.eraseOk ((dn : Nat) : Int) ((bn : Nat) : Int))).bl dn bn).er + 1) }).goes).n) ((((s.ask (s.eraseOk ((dn : Nat) : Int) ((bn : Nat) : Int))).setB dn bn { (s.ask (s.eraseOk ((dn : Nat) : Int) ((bn : Nat) : Int))).bl dn bn with er := IntKind.i64.wrap (((s.ask (s.eraseOk ((dn : Nat) : Int) ((bn : Nat) : Int))).bl dn bn).er + 1) }).goes).n))]), (eN dn), (eN bn), (Value.func (.func 63) #[] #[(ptr b42 0), (ptr b43 0), (ptr b44 0)])] ++ (us 28)) ?_
  refine wpL.done ?_
  refine then_n ?_
  refine wpIn_block ?_
  have h_lt_nbx := a13.lt
  have h_lt_tb := a38.lt
  have h_lt_b44 := a50.lt
  have h_lt_b42 := a48.lt
  have h_lt_b43 := a49.lt
  have tq_oW := oW.size
  have nO_b42 : ¬ (Or1 tb (Or1 nbx (Ors L.S No))) b42 := (not_or1 (Ne.symm n_tb_b42) (not_or1 (Ne.symm n_nbx_b42) (not_ors (hN.dis _ (in2 (in2 in1))) not_no)))
  have nO_b43 : ¬ (Or1 tb (Or1 nbx (Ors L.S No))) b43 := (not_or1 (Ne.symm n_tb_b43) (not_or1 (Ne.symm n_nbx_b43) (not_ors (hN.dis _ (in2 in1)) not_no)))
  have nO_b44 : ¬ (Or1 tb (Or1 nbx (Ors L.S No))) b44 := (not_or1 (Ne.symm n_tb_b44) (not_or1 (Ne.symm n_nbx_b44) (not_ors (hN.dis _ in1) not_no)))
  obtain ⟨D_, hD_⟩ : ∃ D_, w40.heap.size = D_ := ⟨_, rfl⟩
  obtain ⟨L_, hL_⟩ : ∃ L_, w40.heap.size + 1 = L_ := ⟨_, rfl⟩
  refine range_ (encs := (fun k => [eN k, ptr L.bD ((((s.ask (s.eraseOk ((dn : Nat) : Int) ((bn : Nat) : Int))).setB dn bn { (s.ask (s.eraseOk ((dn : Nat) : Int) ((bn : Nat) : Int))).bl dn bn with er := IntKind.i64.wrap (((s.ask (s.eraseOk ((dn : Nat) : Int) ((bn : Nat) : Int))).bl dn bn).er + 1) }).goes).ix dn bn k)])) (Pv := No) (O := (Or1 tb (Or1 nbx (Ors L.S No)))) (xs := (List.range (((s.ask (s.eraseOk ((dn : Nat) : Int) ((bn : Nat) : Int))).setB dn bn { (s.ask (s.eraseOk ((dn : Nat) : Int) ((bn : Nat) : Int))).bl dn bn with er := IntKind.i64.wrap (((s.ask (s.eraseOk ((dn : Nat) : Int) ((bn : Nat) : Int))).bl dn bn).er + 1) }).goes).gP)) (D := D_) (L := L_) (rs := []) hD_ hL_ rfl Try.func63 (by kernel_rfl) rfl (iter_block (((s.ask (s.eraseOk ((dn : Nat) : Int) ((bn : Nat) : Int))).setB dn bn { (s.ask (s.eraseOk ((dn : Nat) : Int) ((bn : Nat) : Int))).bl dn bn with er := IntKind.i64.wrap (((s.ask (s.eraseOk ((dn : Nat) : Int) ((bn : Nat) : Int))).bl dn bn).er + 1) }).goes) hN.ok L.bD dn bn hd1 hb1 b42 b43 b44 a48 a49 a50 n_b42_b43 n_b42_b44 n_b43_b44 nO_b42 nO_b43 nO_b44) (fun k t => t.elim) (fun _ => rfl) (lt_or1 h_lt_tb (lt_or1 h_lt_nbx (lt_ors hN.lt lt_no))) (fun (pre : List Nat) (w_ : World) => Only (Or1 tb (Or1 nbx (Ors L.S No))) w40 w_ ∧ Arr 27 nbx [(ptr L.bN 0)] w_ ∧ Arr 4 tb [(Value.bool (((s.ask (s.eraseOk ((dn : Nat) : Int) ((bn : Nat) : Int))).setB dn bn { (s.ask (s.eraseOk ((dn : Nat) : Int) ((bn : Nat) : Int))).bl dn bn with er := IntKind.i64.wrap (((s.ask (s.eraseOk ((dn : Nat) : Int) ((bn : Nat) : Int))).bl dn bn).er + 1) }).goesR))] w_ ∧ Arr 3 b44 [(eN bn)] w_ ∧ Arr 65 b42 [(eN ((((s.ask (s.eraseOk ((dn : Nat) : Int) ((bn : Nat) : Int))).setB dn bn { (s.ask (s.eraseOk ((dn : Nat) : Int) ((bn : Nat) : Int))).bl dn bn with er := IntKind.i64.wrap (((s.ask (s.eraseOk ((dn : Nat) : Int) ((bn : Nat) : Int))).bl dn bn).er + 1) }).goes).gD)), (eN ((((s.ask (s.eraseOk ((dn : Nat) : Int) ((bn : Nat) : Int))).setB dn bn { (s.ask (s.eraseOk ((dn : Nat) : Int) ((bn : Nat) : Int))).bl dn bn with er := IntKind.i64.wrap (((s.ask (s.eraseOk ((dn : Nat) : Int) ((bn : Nat) : Int))).bl dn bn).er + 1) }).goes).gB)), (eN ((((s.ask (s.eraseOk ((dn : Nat) : Int) ((bn : Nat) : Int))).setB dn bn { (s.ask (s.eraseOk ((dn : Nat) : Int) ((bn : Nat) : Int))).bl dn bn with er := IntKind.i64.wrap (((s.ask (s.eraseOk ((dn : Nat) : Int) ((bn : Nat) : Int))).bl dn bn).er + 1) }).goes).gP)), (sli L.bD 0 ((((s.ask (s.eraseOk ((dn : Nat) : Int) ((bn : Nat) : Int))).setB dn bn { (s.ask (s.eraseOk ((dn : Nat) : Int) ((bn : Nat) : Int))).bl dn bn with er := IntKind.i64.wrap (((s.ask (s.eraseOk ((dn : Nat) : Int) ((bn : Nat) : Int))).bl dn bn).er + 1) }).goes).n) ((((s.ask (s.eraseOk ((dn : Nat) : Int) ((bn : Nat) : Int))).setB dn bn { (s.ask (s.eraseOk ((dn : Nat) : Int) ((bn : Nat) : Int))).bl dn bn with er := IntKind.i64.wrap (((s.ask (s.eraseOk ((dn : Nat) : Int) ((bn : Nat) : Int))).bl dn bn).er + 1) }).goes).n))] w_ ∧ Arr 3 b43 [(eN dn)] w_ ∧ Nd L ((((s.ask (s.eraseOk ((dn : Nat) : Int) ((bn : Nat) : Int))).setB dn bn { (s.ask (s.eraseOk ((dn : Nat) : Int) ((bn : Nat) : Int))).bl dn bn with er := IntKind.i64.wrap (((s.ask (s.eraseOk ((dn : Nat) : Int) ((bn : Nat) : Int))).bl dn bn).er + 1) }).goes).eraseTo (((s.ask (s.eraseOk ((dn : Nat) : Int) ((bn : Nat) : Int))).setB dn bn { (s.ask (s.eraseOk ((dn : Nat) : Int) ((bn : Nat) : Int))).bl dn bn with er := IntKind.i64.wrap (((s.ask (s.eraseOk ((dn : Nat) : Int) ((bn : Nat) : Int))).bl dn bn).er + 1) }).goesR) dn bn pre.length) (Or1 L_ (Or1 D_ (Or1 b44 (Or1 b43 (Or1 b42 (Or1 tb (Or1 nbx X))))))) w_) (fun _ _ _ => False) ?_ ?_ ?_ ?_ ?_ ?_
  ·
   rintro pre w_ w2_ ⟨o54, a13, a38, a50, a48, a49, hN⟩ ho_
   exact ⟨o54.tail ho_ (stab_tl hD_ hL_ (fun k t => t.elim)), a13.step ho_ (stab_b hD_ hL_ h_lt_nbx (fun t => t.elim)), a38.step ho_ (stab_b hD_ hL_ h_lt_tb (fun t => t.elim)), a50.step ho_ (stab_b hD_ hL_ h_lt_b44 (fun t => t.elim)), a48.step ho_ (stab_b hD_ hL_ h_lt_b42 (fun t => t.elim)), a49.step ho_ (stab_b hD_ hL_ h_lt_b43 (fun t => t.elim)), hN.step ho_ (stab_p (fun k t => t.elim))⟩
  ·
   intro _ _ _ _ h _; exact h.elim
  ·
   refine ⟨?_, ?_, ?_, ?_, ?_, ?_, ?_⟩
   ·
    exact Only.refl _ _
   ·
    exact a13
   ·
    exact a38
   ·
    exact a50
   ·
    exact a48
   ·
    exact a49
   ·
    (try dsimp only)
    all_goals (rw [show ([] : List Nat).length = 0 from rfl, NS.eraseTo_zero]; exact Nd.less hN (xx_new (by omega) (xx_new (Nat.le_of_eq hD_) xx_id)))
  ·
   intro pre k w1_ hpx_ hI_ hL1_
   obtain ⟨o54, a13, a38, a50, a48, a49, hN⟩ := hI_
   replace oW := oW.tail o54 (tl_new g_oW_tb (tl_new g_oW_nbx (tl_sin (fun k h => h) tl_no)))
   have n_nbx_D_ : nbx ≠ D_ := by omega
   have n_tb_D_ : tb ≠ D_ := by omega
   have n_b44_D_ : b44 ≠ D_ := by omega
   have n_b42_D_ : b42 ≠ D_ := by omega
   have n_b43_D_ : b43 ≠ D_ := by omega
   have g_oW_D_ : W.heap.size ≤ D_ := by omega
   have g_o54_D_ : w40.heap.size ≤ D_ := by omega
   have n_nbx_L_ : nbx ≠ L_ := by omega
   have n_tb_L_ : tb ≠ L_ := by omega
   have n_b44_L_ : b44 ≠ L_ := by omega
   have n_b42_L_ : b42 ≠ L_ := by omega
   have n_b43_L_ : b43 ≠ L_ := by omega
   have g_oW_L_ : W.heap.size ≤ L_ := by omega
   have g_o54_L_ : w40.heap.size ≤ L_ := by omega
   have n_D__L_ : D_ ≠ L_ := by omega
   have aL_ : Dead L_ w1_ := hL1_
   have aD_ : Dead D_ w1_ := by unfold Dead; omega
   refine wp_eq (l' := ([(ptr L.bN 0), (eN dn), (eN bn), (ptr nbx 0), undef, undef, (eN 0), (eN (s.askR (s.eraseOk ((dn : Nat) : Int) ((bn : Nat) : Int)))), (ptr tb 0), undef, undef, (ptr L.bN 0), (ptr L.bN 0), (eN dn), (eN bn), (Value.bool true), (Value.bool true), (ptr L.bN 0), (eN dn), (eN bn), (Value.bool false), (Value.bool true), (Value.bool true), (eN (s.askR (s.eraseOk ((dn : Nat) : Int) ((bn : Nat) : Int)))), (eN (s.askR (s.eraseOk ((dn : Nat) : Int) ((bn : Nat) : Int)))), (Value.bool (!decide ((s.askR (s.eraseOk ((dn : Nat) : Int) ((bn : Nat) : Int))) = 0))), undef, (ptr L.bN 0), (ptr L.bN 0), (ptr L.bN 11), L.ub, (eN dn), (ixp L.ub dn), (sli (L.bk.getD dn 0) 0 ((s.ask (s.eraseOk ((dn : Nat) : Int) ((bn : Nat) : Int))).gB) ((s.ask (s.eraseOk ((dn : Nat) : Int) ((bn : Nat) : Int))).gB)), (eN bn), (ptr (L.bk.getD dn 0) (bn * 3)), (ptr (L.bk.getD dn 0) (bn * 3 + 1)), (eI (((s.ask (s.eraseOk ((dn : Nat) : Int) ((bn : Nat) : Int))).bl dn bn).er)), (eI (IntKind.i64.wrap (((s.ask (s.eraseOk ((dn : Nat) : Int) ((bn : Nat) : Int))).bl dn bn).er + 1))), (ptr (L.bk.getD dn 0) (bn * 3)), (ptr (L.bk.getD dn 0) (bn * 3 + 1)), (ptr L.bN 0), (Value.bool (((s.ask (s.eraseOk ((dn : Nat) : Int) ((bn : Nat) : Int))).setB dn bn { (s.ask (s.eraseOk ((dn : Nat) : Int) ((bn : Nat) : Int))).bl dn bn with er := IntKind.i64.wrap (((s.ask (s.eraseOk ((dn : Nat) : Int) ((bn : Nat) : Int))).bl dn bn).er + 1) }).goesR)), (ptr L.bN 0), (ptr L.bN 0), (ptr L.bN 3), (Value.agg #[(eN ((((s.ask (s.eraseOk ((dn : Nat) : Int) ((bn : Nat) : Int))).setB dn bn { (s.ask (s.eraseOk ((dn : Nat) : Int) ((bn : Nat) : Int))).bl dn bn with er := IntKind.i64.wrap (((s.ask (s.eraseOk ((dn : Nat) : Int) ((bn : Nat) : Int))).bl dn bn).er + 1) }).goes).gD)), (eN ((((s.ask (s.eraseOk ((dn : Nat) : Int) ((bn : Nat) : Int))).setB dn bn { (s.ask (s.eraseOk ((dn : Nat) : Int) ((bn : Nat) : Int))).bl dn bn with er := IntKind.i64.wrap (((s.ask (s.eraseOk ((dn : Nat) : Int) ((bn : Nat) : Int))).bl dn bn).er + 1) }).goes).gB)), (eN ((((s.ask (s.eraseOk ((dn : Nat) : Int) ((bn : Nat) : Int))).setB dn bn { (s.ask (s.eraseOk ((dn : Nat) : Int) ((bn : Nat) : Int))).bl dn bn with er := IntKind.i64.wrap (((s.ask (s.eraseOk ((dn : Nat) : Int) ((bn : Nat) : Int))).bl dn bn).er + 1) }).goes).gP)), (sli L.bD 0 ((((s.ask (s.eraseOk ((dn : Nat) : Int) ((bn : Nat) : Int))).setB dn bn { (s.ask (s.eraseOk ((dn : Nat) : Int) ((bn : Nat) : Int))).bl dn bn with er := IntKind.i64.wrap (((s.ask (s.eraseOk ((dn : Nat) : Int) ((bn : Nat) : Int))).bl dn bn).er + 1) }).goes).n) ((((s.ask (s.eraseOk ((dn : Nat) : Int) ((bn : Nat) : Int))).setB dn bn { (s.ask (s.eraseOk ((dn : Nat) : Int) ((bn : Nat) : Int))).bl dn bn with er := IntKind.i64.wrap (((s.ask (s.eraseOk ((dn : Nat) : Int) ((bn : Nat) : Int))).bl dn bn).er + 1) }).goes).n))]), (eN dn), (eN bn), (Value.func (.func 63) #[] #[(ptr b42 0), (ptr b43 0), (ptr b44 0)]), (eN k), (ptr L.bD ((((s.ask (s.eraseOk ((dn : Nat) : Int) ((bn : Nat) : Int))).setB dn bn { (s.ask (s.eraseOk ((dn : Nat) : Int) ((bn : Nat) : Int))).bl dn bn with er := IntKind.i64.wrap (((s.ask (s.eraseOk ((dn : Nat) : Int) ((bn : Nat) : Int))).bl dn bn).er + 1) }).goes).ix dn bn k))] ++ (us 26))) (by kernel_rfl) ?_
   refine plain ?_
   refine wI (d_assign rfl) ?_
   refine wF ([(ptr L.bN 0), (eN dn), (eN bn), (ptr nbx 0), undef, undef, (eN 0), (eN (s.askR (s.eraseOk ((dn : Nat) : Int) ((bn : Nat) : Int)))), (ptr tb 0), undef, (ptr L.bD ((((s.ask (s.eraseOk ((dn : Nat) : Int) ((bn : Nat) : Int))).setB dn bn { (s.ask (s.eraseOk ((dn : Nat) : Int) ((bn : Nat) : Int))).bl dn bn with er := IntKind.i64.wrap (((s.ask (s.eraseOk ((dn : Nat) : Int) ((bn : Nat) : Int))).bl dn bn).er + 1) }).goes).ix dn bn k)), (ptr L.bN 0), (ptr L.bN 0), (eN dn), (eN bn), (Value.bool true), (Value.bool true), (ptr L.bN 0), (eN dn), (eN bn), (Value.bool false), (Value.bool true), (Value.bool true), (eN (s.askR (s.eraseOk ((dn : Nat) : Int) ((bn : Nat) : Int)))), (eN (s.askR (s.eraseOk ((dn : Nat) : Int) ((bn : Nat) : Int)))), (Value.bool (!decide ((s.askR (s.eraseOk ((dn : Nat) : Int) ((bn : Nat) : Int))) = 0))), undef, (ptr L.bN 0), (ptr L.bN 0), (ptr L.bN 11), L.ub, (eN dn), (ixp L.ub dn), (sli (L.bk.getD dn 0) 0 ((s.ask (s.eraseOk ((dn : Nat) : Int) ((bn : Nat) : Int))).gB) ((s.ask (s.eraseOk ((dn : Nat) : Int) ((bn : Nat) : Int))).gB)), (eN bn), (ptr (L.bk.getD dn 0) (bn * 3)), (ptr (L.bk.getD dn 0) (bn * 3 + 1)), (eI (((s.ask (s.eraseOk ((dn : Nat) : Int) ((bn : Nat) : Int))).bl dn bn).er)), (eI (IntKind.i64.wrap (((s.ask (s.eraseOk ((dn : Nat) : Int) ((bn : Nat) : Int))).bl dn bn).er + 1))), (ptr (L.bk.getD dn 0) (bn * 3)), (ptr (L.bk.getD dn 0) (bn * 3 + 1)), (ptr L.bN 0), (Value.bool (((s.ask (s.eraseOk ((dn : Nat) : Int) ((bn : Nat) : Int))).setB dn bn { (s.ask (s.eraseOk ((dn : Nat) : Int) ((bn : Nat) : Int))).bl dn bn with er := IntKind.i64.wrap (((s.ask (s.eraseOk ((dn : Nat) : Int) ((bn : Nat) : Int))).bl dn bn).er + 1) }).goesR)), (ptr L.bN 0), (ptr L.bN 0), (ptr L.bN 3), (Value.agg #[(eN ((((s.ask (s.eraseOk ((dn : Nat) : Int) ((bn : Nat) : Int))).setB dn bn { (s.ask (s.eraseOk ((dn : Nat) : Int) ((bn : Nat) : Int))).bl dn bn with er := IntKind.i64.wrap (((s.ask (s.eraseOk ((dn : Nat) : Int) ((bn : Nat) : Int))).bl dn bn).er + 1) }).goes).gD)), (eN ((((s.ask (s.eraseOk ((dn : Nat) : Int) ((bn : Nat) : Int))).setB dn bn { (s.ask (s.eraseOk ((dn : Nat) : Int) ((bn : Nat) : Int))).bl dn bn with er := IntKind.i64.wrap (((s.ask (s.eraseOk ((dn : Nat) : Int) ((bn : Nat) : Int))).bl dn bn).er + 1) }).goes).gB)), (eN ((((s.ask (s.eraseOk ((dn : Nat) : Int) ((bn : Nat) : Int))).setB dn bn { (s.ask (s.eraseOk ((dn : Nat) : Int) ((bn : Nat) : Int))).bl dn bn with er := IntKind.i64.wrap (((s.ask (s.eraseOk ((dn : Nat) : Int) ((bn : Nat) : Int))).bl dn bn).er + 1) }).goes).gP)), (sli L.bD 0 ((((s.ask (s.eraseOk ((dn : Nat) : Int) ((bn : Nat) : Int))).setB dn bn { (s.ask (s.eraseOk ((dn : Nat) : Int) ((bn : Nat) : Int))).bl dn bn with er := IntKind.i64.wrap (((s.ask (s.eraseOk ((dn : Nat) : Int) ((bn : Nat) : Int))).bl dn bn).er + 1) }).goes).n) ((((s.ask (s.eraseOk ((dn : Nat) : Int) ((bn : Nat) : Int))).setB dn bn { (s.ask (s.eraseOk ((dn : Nat) : Int) ((bn : Nat) : Int))).bl dn bn with er := IntKind.i64.wrap (((s.ask (s.eraseOk ((dn : Nat) : Int) ((bn : Nat) : Int))).bl dn bn).er + 1) }).goes).n))]), (eN dn), (eN bn), (Value.func (.func 63) #[] #[(ptr b42 0), (ptr b43 0), (ptr b44 0)]), (eN k), (ptr L.bD ((((s.ask (s.eraseOk ((dn : Nat) : Int) ((bn : Nat) : Int))).setB dn bn { (s.ask (s.eraseOk ((dn : Nat) : Int) ((bn : Nat) : Int))).bl dn bn with er := IntKind.i64.wrap (((s.ask (s.eraseOk ((dn : Nat) : Int) ((bn : Nat) : Int))).bl dn bn).er + 1) }).goes).ix dn bn k))] ++ (us 26)) ?_
   refine wpL.done ?_
   refine then_n ?_
   refine ⟨Only.refl _ _, fun w2_ oL_ _ => ?_⟩
   replace hN := hN.stepb oL_ in1
   replace a13 := a13.step oL_ (fun e => absurd e n_nbx_L_)
   replace a38 := a38.step oL_ (fun e => absurd e n_tb_L_)
   replace a50 := a50.step oL_ (fun e => absurd e n_b44_L_)
   replace a48 := a48.step oL_ (fun e => absurd e n_b42_L_)
   replace a49 := a49.step oL_ (fun e => absurd e n_b43_L_)
   replace aD_ := aD_.step oL_ (fun e => absurd e n_D__L_)
   replace oW := oW.tailb oL_ g_oW_L_
   replace o54 := o54.tailb oL_ g_o54_L_
   replace aL_ : Dead L_ w2_ := Nat.lt_of_lt_of_le aL_ oL_.size
   have oR_ : Only (fun k => (Or1 tb (Or1 nbx (Ors L.S No))) k ∨ L_ < k) w2_ w2_ := Only.refl _ _
   obtain ⟨hk1_, hk2_⟩ := pre_range hpx_
   subst hk1_
   refine wp_eq (l' := ([(ptr L.bN 0), (eN dn), (eN bn), (ptr nbx 0), undef, undef, (eN 0), (eN (s.askR (s.eraseOk ((dn : Nat) : Int) ((bn : Nat) : Int)))), (ptr tb 0), undef, (ptr L.bD ((((s.ask (s.eraseOk ((dn : Nat) : Int) ((bn : Nat) : Int))).setB dn bn { (s.ask (s.eraseOk ((dn : Nat) : Int) ((bn : Nat) : Int))).bl dn bn with er := IntKind.i64.wrap (((s.ask (s.eraseOk ((dn : Nat) : Int) ((bn : Nat) : Int))).bl dn bn).er + 1) }).goes).ix dn bn pre.length)), (ptr L.bN 0), (ptr L.bN 0), (eN dn), (eN bn), (Value.bool true), (Value.bool true), (ptr L.bN 0), (eN dn), (eN bn), (Value.bool false), (Value.bool true), (Value.bool true), (eN (s.askR (s.eraseOk ((dn : Nat) : Int) ((bn : Nat) : Int)))), (eN (s.askR (s.eraseOk ((dn : Nat) : Int) ((bn : Nat) : Int)))), (Value.bool (!decide ((s.askR (s.eraseOk ((dn : Nat) : Int) ((bn : Nat) : Int))) = 0))), undef, (ptr L.bN 0), (ptr L.bN 0), (ptr L.bN 11), L.ub, (eN dn), (ixp L.ub dn), (sli (L.bk.getD dn 0) 0 ((s.ask (s.eraseOk ((dn : Nat) : Int) ((bn : Nat) : Int))).gB) ((s.ask (s.eraseOk ((dn : Nat) : Int) ((bn : Nat) : Int))).gB)), (eN bn), (ptr (L.bk.getD dn 0) (bn * 3)), (ptr (L.bk.getD dn 0) (bn * 3 + 1)), (eI (((s.ask (s.eraseOk ((dn : Nat) : Int) ((bn : Nat) : Int))).bl dn bn).er)), (eI (IntKind.i64.wrap (((s.ask (s.eraseOk ((dn : Nat) : Int) ((bn : Nat) : Int))).bl dn bn).er + 1))), (ptr (L.bk.getD dn 0) (bn * 3)), (ptr (L.bk.getD dn 0) (bn * 3 + 1)), (ptr L.bN 0), (Value.bool (((s.ask (s.eraseOk ((dn : Nat) : Int) ((bn : Nat) : Int))).setB dn bn { (s.ask (s.eraseOk ((dn : Nat) : Int) ((bn : Nat) : Int))).bl dn bn with er := IntKind.i64.wrap (((s.ask (s.eraseOk ((dn : Nat) : Int) ((bn : Nat) : Int))).bl dn bn).er + 1) }).goesR)), (ptr L.bN 0), (ptr L.bN 0), (ptr L.bN 3), (Value.agg #[(eN ((((s.ask (s.eraseOk ((dn : Nat) : Int) ((bn : Nat) : Int))).setB dn bn { (s.ask (s.eraseOk ((dn : Nat) : Int) ((bn : Nat) : Int))).bl dn bn with er := IntKind.i64.wrap (((s.ask (s.eraseOk ((dn : Nat) : Int) ((bn : Nat) : Int))).bl dn bn).er + 1) }).goes).gD)), (eN ((((s.ask (s.eraseOk ((dn : Nat) : Int) ((bn : Nat) : Int))).setB dn bn { (s.ask (s.eraseOk ((dn : Nat) : Int) ((bn : Nat) : Int))).bl dn bn with er := IntKind.i64.wrap (((s.ask (s.eraseOk ((dn : Nat) : Int) ((bn : Nat) : Int))).bl dn bn).er + 1) }).goes).gB)), (eN ((((s.ask (s.eraseOk ((dn : Nat) : Int) ((bn : Nat) : Int))).setB dn bn { (s.ask (s.eraseOk ((dn : Nat) : Int) ((bn : Nat) : Int))).bl dn bn with er := IntKind.i64.wrap (((s.ask (s.eraseOk ((dn : Nat) : Int) ((bn : Nat) : Int))).bl dn bn).er + 1) }).goes).gP)), (sli L.bD 0 ((((s.ask (s.eraseOk ((dn : Nat) : Int) ((bn : Nat) : Int))).setB dn bn { (s.ask (s.eraseOk ((dn : Nat) : Int) ((bn : Nat) : Int))).bl dn bn with er := IntKind.i64.wrap (((s.ask (s.eraseOk ((dn : Nat) : Int) ((bn : Nat) : Int))).bl dn bn).er + 1) }).goes).n) ((((s.ask (s.eraseOk ((dn : Nat) : Int) ((bn : Nat) : Int))).setB dn bn { (s.ask (s.eraseOk ((dn : Nat) : Int) ((bn : Nat) : Int))).bl dn bn with er := IntKind.i64.wrap (((s.ask (s.eraseOk ((dn : Nat) : Int) ((bn : Nat) : Int))).bl dn bn).er + 1) }).goes).n))]), (eN dn), (eN bn), (Value.func (.func 63) #[] #[(ptr b42 0), (ptr b43 0), (ptr b44 0)]), (eN pre.length), (ptr L.bD ((((s.ask (s.eraseOk ((dn : Nat) : Int) ((bn : Nat) : Int))).setB dn bn { (s.ask (s.eraseOk ((dn : Nat) : Int) ((bn : Nat) : Int))).bl dn bn with er := IntKind.i64.wrap (((s.ask (s.eraseOk ((dn : Nat) : Int) ((bn : Nat) : Int))).bl dn bn).er + 1) }).goes).ix dn bn pre.length))] ++ (us 26))) rfl ?_
   refine wpIn_block ?_
   refine wpIn_seq ?_
   refine plain ?_
   refine wI (d_load (v := (Value.bool (((s.ask (s.eraseOk ((dn : Nat) : Int) ((bn : Nat) : Int))).setB dn bn { (s.ask (s.eraseOk ((dn : Nat) : Int) ((bn : Nat) : Int))).bl dn bn with er := IntKind.i64.wrap (((s.ask (s.eraseOk ((dn : Nat) : Int) ((bn : Nat) : Int))).bl dn bn).er + 1) }).goesR))) ⟨_, Try.underlying4, rfl⟩ rfl a38 rfl) ?_
   refine wF ([(ptr L.bN 0), (eN dn), (eN bn), (ptr nbx 0), undef, undef, (eN 0), (eN (s.askR (s.eraseOk ((dn : Nat) : Int) ((bn : Nat) : Int)))), (ptr tb 0), undef, (ptr L.bD ((((s.ask (s.eraseOk ((dn : Nat) : Int) ((bn : Nat) : Int))).setB dn bn { (s.ask (s.eraseOk ((dn : Nat) : Int) ((bn : Nat) : Int))).bl dn bn with er := IntKind.i64.wrap (((s.ask (s.eraseOk ((dn : Nat) : Int) ((bn : Nat) : Int))).bl dn bn).er + 1) }).goes).ix dn bn pre.length)), (ptr L.bN 0), (ptr L.bN 0), (eN dn), (eN bn), (Value.bool true), (Value.bool true), (ptr L.bN 0), (eN dn), (eN bn), (Value.bool false), (Value.bool true), (Value.bool true), (eN (s.askR (s.eraseOk ((dn : Nat) : Int) ((bn : Nat) : Int)))), (eN (s.askR (s.eraseOk ((dn : Nat) : Int) ((bn : Nat) : Int)))), (Value.bool (!decide ((s.askR (s.eraseOk ((dn : Nat) : Int) ((bn : Nat) : Int))) = 0))), undef, (ptr L.bN 0), (ptr L.bN 0), (ptr L.bN 11), L.ub, (eN dn), (ixp L.ub dn), (sli (L.bk.getD dn 0) 0 ((s.ask (s.eraseOk ((dn : Nat) : Int) ((bn : Nat) : Int))).gB) ((s.ask (s.eraseOk ((dn : Nat) : Int) ((bn : Nat) : Int))).gB)), (eN bn), (ptr (L.bk.getD dn 0) (bn * 3)), (ptr (L.bk.getD dn 0) (bn * 3 + 1)), (eI (((s.ask (s.eraseOk ((dn : Nat) : Int) ((bn : Nat) : Int))).bl dn bn).er)), (eI (IntKind.i64.wrap (((s.ask (s.eraseOk ((dn : Nat) : Int) ((bn : Nat) : Int))).bl dn bn).er + 1))), (ptr (L.bk.getD dn 0) (bn * 3)), (ptr (L.bk.getD dn 0) (bn * 3 + 1)), (ptr L.bN 0), (Value.bool (((s.ask (s.eraseOk ((dn : Nat) : Int) ((bn : Nat) : Int))).setB dn bn { (s.ask (s.eraseOk ((dn : Nat) : Int) ((bn : Nat) : Int))).bl dn bn with er := IntKind.i64.wrap (((s.ask (s.eraseOk ((dn : Nat) : Int) ((bn : Nat) : Int))).bl dn bn).er + 1) }).goesR)), (ptr L.bN 0), (ptr L.bN 0), (ptr L.bN 3), (Value.agg #[(eN ((((s.ask (s.eraseOk ((dn : Nat) : Int) ((bn : Nat) : Int))).setB dn bn { (s.ask (s.eraseOk ((dn : Nat) : Int) ((bn : Nat) : Int))).bl dn bn with er := IntKind.i64.wrap (((s.ask (s.eraseOk ((dn : Nat) : Int) ((bn : Nat) : Int))).bl dn bn).er + 1) }).goes).gD)), (eN ((((s.ask (s.eraseOk ((dn : Nat) : Int) ((bn : Nat) : Int))).setB dn bn { (s.ask (s.eraseOk ((dn : Nat) : Int) ((bn : Nat) : Int))).bl dn bn with er := IntKind.i64.wrap (((s.ask (s.eraseOk ((dn : Nat) : Int) ((bn : Nat) : Int))).bl dn bn).er + 1) }).goes).gB)), (eN ((((s.ask (s.eraseOk ((dn : Nat) : Int) ((bn : Nat) : Int))).setB dn bn { (s.ask (s.eraseOk ((dn : Nat) : Int) ((bn : Nat) : Int))).bl dn bn with er := IntKind.i64.wrap (((s.ask (s.eraseOk ((dn : Nat) : Int) ((bn : Nat) : Int))).bl dn bn).er + 1) }).goes).gP)), (sli L.bD 0 ((((s.ask (s.eraseOk ((dn : Nat) : Int) ((bn : Nat) : Int))).setB dn bn { (s.ask (s.eraseOk ((dn : Nat) : Int) ((bn : Nat) : Int))).bl dn bn with er := IntKind.i64.wrap (((s.ask (s.eraseOk ((dn : Nat) : Int) ((bn : Nat) : Int))).bl dn bn).er + 1) }).goes).n) ((((s.ask (s.eraseOk ((dn : Nat) : Int) ((bn : Nat) : Int))).setB dn bn { (s.ask (s.eraseOk ((dn : Nat) : Int) ((bn : Nat) : Int))).bl dn bn with er := IntKind.i64.wrap (((s.ask (s.eraseOk ((dn : Nat) : Int) ((bn : Nat) : Int))).bl dn bn).er + 1) }).goes).n))]), (eN dn), (eN bn), (Value.func (.func 63) #[] #[(ptr b42 0), (ptr b43 0), (ptr b44 0)]), (eN pre.length), (ptr L.bD ((((s.ask (s.eraseOk ((dn : Nat) : Int) ((bn : Nat) : Int))).setB dn bn { (s.ask (s.eraseOk ((dn : Nat) : Int) ((bn : Nat) : Int))).bl dn bn with er := IntKind.i64.wrap (((s.ask (s.eraseOk ((dn : Nat) : Int) ((bn : Nat) : Int))).bl dn bn).er + 1) }).goes).ix dn bn pre.length)), (Value.bool (((s.ask (s.eraseOk ((dn : Nat) : Int) ((bn : Nat) : Int))).setB dn bn { (s.ask (s.eraseOk ((dn : Nat) : Int) ((bn : Nat) : Int))).bl dn bn with er := IntKind.i64.wrap (((s.ask (s.eraseOk ((dn : Nat) : Int) ((bn : Nat) : Int))).bl dn bn).er + 1) }).goesR))] ++ (us 25)) ?_
   refine wpL.done ?_
   refine then_n ?_
   refine cond_b rfl (fun c1 => ?_) (fun c1 => ?_)
   ·
    have l1_ : (((((s.ask (s.eraseOk ((dn : Nat) : Int) ((bn : Nat) : Int))).setB dn bn { (s.ask (s.eraseOk ((dn : Nat) : Int) ((bn : Nat) : Int))).bl dn bn with er := IntKind.i64.wrap (((s.ask (s.eraseOk ((dn : Nat) : Int) ((bn : Nat) : Int))).bl dn bn).er + 1) }).goes).eraseTo (((s.ask (s.eraseOk ((dn : Nat) : Int) ((bn : Nat) : Int))).setB dn bn { (s.ask (s.eraseOk ((dn : Nat) : Int) ((bn : Nat) : Int))).bl dn bn with er := IntKind.i64.wrap (((s.ask (s.eraseOk ((dn : Nat) : Int) ((bn : Nat) : Int))).bl dn bn).er + 1) }).goesR) dn bn pre.length).dl ((((s.ask (s.eraseOk ((dn : Nat) : Int) ((bn : Nat) : Int))).setB dn bn { (s.ask (s.eraseOk ((dn : Nat) : Int) ((bn : Nat) : Int))).bl dn bn with er := IntKind.i64.wrap (((s.ask (s.eraseOk ((dn : Nat) : Int) ((bn : Nat) : Int))).bl dn bn).er + 1) }).goes).ix dn bn pre.length)).length = 60 := hN.ok.dl _
    have l3_ : ((((s.ask (s.eraseOk ((dn : Nat) : Int) ((bn : Nat) : Int))).setB dn bn { (s.ask (s.eraseOk ((dn : Nat) : Int) ((bn : Nat) : Int))).bl dn bn with er := IntKind.i64.wrap (((s.ask (s.eraseOk ((dn : Nat) : Int) ((bn : Nat) : Int))).bl dn bn).er + 1) }).goes).eraseTo (((s.ask (s.eraseOk ((dn : Nat) : Int) ((bn : Nat) : Int))).setB dn bn { (s.ask (s.eraseOk ((dn : Nat) : Int) ((bn : Nat) : Int))).bl dn bn with er := IntKind.i64.wrap (((s.ask (s.eraseOk ((dn : Nat) : Int) ((bn : Nat) : Int))).bl dn bn).er + 1) }).goesR) dn bn pre.length).mask.length ≤ 1048576 := hN.ok.ml
    refine drawnT (O := (Or1 tb (Or1 nbx (Ors L.S No)))) (n := 12) 10 [0, 0, 2, 6, 0, 0, 32, 96, 224, 510, 1023, 2047] [(0, 53), (1, 54), (2, 55), (3, 56), (4, 57), (5, 58), (6, 59), (7, 60), (8, 61), (9, 62), (10, 63)] [(0, 53), (1, 54), (2, 55), (3, 56), (4, 57), (5, 58), (6, 59), (7, 60), (8, 61), (9, 62)] [0, 1, 2, 3, 4, 5, 6, 7, 8, 9] [] (fun i_ => ([RF.is (Or1 tb (Or1 nbx (Ors L.S No))) (ptr L.bD ((((s.ask (s.eraseOk ((dn : Nat) : Int) ((bn : Nat) : Int))).setB dn bn { (s.ask (s.eraseOk ((dn : Nat) : Int) ((bn : Nat) : Int))).bl dn bn with er := IntKind.i64.wrap (((s.ask (s.eraseOk ((dn : Nat) : Int) ((bn : Nat) : Int))).bl dn bn).er + 1) }).goes).ix dn bn pre.length)), RF.is (Or1 tb (Or1 nbx (Ors L.S No))) (ptr L.bD ((((s.ask (s.eraseOk ((dn : Nat) : Int) ((bn : Nat) : Int))).setB dn bn { (s.ask (s.eraseOk ((dn : Nat) : Int) ((bn : Nat) : Int))).bl dn bn with er := IntKind.i64.wrap (((s.ask (s.eraseOk ((dn : Nat) : Int) ((bn : Nat) : Int))).bl dn bn).er + 1) }).goes).ix dn bn pre.length)), RF.is (Or1 tb (Or1 nbx (Ors L.S No))) (ptr L.bD ((((s.ask (s.eraseOk ((dn : Nat) : Int) ((bn : Nat) : Int))).setB dn bn { (s.ask (s.eraseOk ((dn : Nat) : Int) ((bn : Nat) : Int))).bl dn bn with er := IntKind.i64.wrap (((s.ask (s.eraseOk ((dn : Nat) : Int) ((bn : Nat) : Int))).bl dn bn).er + 1) }).goes).ix dn bn pre.length)), RF.ps (Or1 tb (Or1 nbx (Ors L.S No))) (Or1 L_ (Or1 D_ (Or1 b44 (Or1 b43 (Or1 b42 (Or1 tb (Or1 nbx (Ors L.S X)))))))) (Seq kB (((((s.ask (s.eraseOk ((dn : Nat) : Int) ((bn : Nat) : Int))).setB dn bn { (s.ask (s.eraseOk ((dn : Nat) : Int) ((bn : Nat) : Int))).bl dn bn with er := IntKind.i64.wrap (((s.ask (s.eraseOk ((dn : Nat) : Int) ((bn : Nat) : Int))).bl dn bn).er + 1) }).goes).eraseTo (((s.ask (s.eraseOk ((dn : Nat) : Int) ((bn : Nat) : Int))).setB dn bn { (s.ask (s.eraseOk ((dn : Nat) : Int) ((bn : Nat) : Int))).bl dn bn with er := IntKind.i64.wrap (((s.ask (s.eraseOk ((dn : Nat) : Int) ((bn : Nat) : Int))).bl dn bn).er + 1) }).goesR) dn bn pre.length).dl ((((s.ask (s.eraseOk ((dn : Nat) : Int) ((bn : Nat) : Int))).setB dn bn { (s.ask (s.eraseOk ((dn : Nat) : Int) ((bn : Nat) : Int))).bl dn bn with er := IntKind.i64.wrap (((s.ask (s.eraseOk ((dn : Nat) : Int) ((bn : Nat) : Int))).bl dn bn).er + 1) }).goes).ix dn bn pre.length))) (or1_skip (or1_skip (or1_skip (or1_skip (or1_skip (or1_mono (or1_mono (ors_mono no_any)))))))), RF.ps (Or1 tb (Or1 nbx (Ors L.S No))) (Or1 L_ (Or1 D_ (Or1 b44 (Or1 b43 (Or1 b42 (Or1 tb (Or1 nbx (Ors L.S (Old W.heap.size))))))))) (Seq kB onesW) (or1_skip (or1_skip (or1_skip (or1_skip (or1_skip (or1_mono (or1_mono (ors_mono no_any)))))))), RF.is (Or1 tb (Or1 nbx (Ors L.S No))) (ptr L.bN 0), RF.is (Or1 tb (Or1 nbx (Ors L.S No))) (ptr L.bN 0), RF.is (Or1 tb (Or1 nbx (Ors L.S No))) (ptr L.bN 13), RF.ps (Or1 tb (Or1 nbx (Ors L.S No))) (Or1 L_ (Or1 D_ (Or1 b44 (Or1 b43 (Or1 b42 (Or1 tb (Or1 nbx (Ors L.S X)))))))) (Seq kB (((((s.ask (s.eraseOk ((dn : Nat) : Int) ((bn : Nat) : Int))).setB dn bn { (s.ask (s.eraseOk ((dn : Nat) : Int) ((bn : Nat) : Int))).bl dn bn with er := IntKind.i64.wrap (((s.ask (s.eraseOk ((dn : Nat) : Int) ((bn : Nat) : Int))).bl dn bn).er + 1) }).goes).eraseTo (((s.ask (s.eraseOk ((dn : Nat) : Int) ((bn : Nat) : Int))).setB dn bn { (s.ask (s.eraseOk ((dn : Nat) : Int) ((bn : Nat) : Int))).bl dn bn with er := IntKind.i64.wrap (((s.ask (s.eraseOk ((dn : Nat) : Int) ((bn : Nat) : Int))).bl dn bn).er + 1) }).goesR) dn bn pre.length).mask)) (or1_skip (or1_skip (or1_skip (or1_skip (or1_skip (or1_mono (or1_mono (ors_mono no_any)))))))), RF.ps (Or1 tb (Or1 nbx (Ors L.S No))) (Or1 L_ (Or1 D_ (Or1 b44 (Or1 b43 (Or1 b42 (Or1 tb (Or1 nbx (Ors L.S (Old W.heap.size))))))))) (Seq kB (mixR (((((s.ask (s.eraseOk ((dn : Nat) : Int) ((bn : Nat) : Int))).setB dn bn { (s.ask (s.eraseOk ((dn : Nat) : Int) ((bn : Nat) : Int))).bl dn bn with er := IntKind.i64.wrap (((s.ask (s.eraseOk ((dn : Nat) : Int) ((bn : Nat) : Int))).bl dn bn).er + 1) }).goes).eraseTo (((s.ask (s.eraseOk ((dn : Nat) : Int) ((bn : Nat) : Int))).setB dn bn { (s.ask (s.eraseOk ((dn : Nat) : Int) ((bn : Nat) : Int))).bl dn bn with er := IntKind.i64.wrap (((s.ask (s.eraseOk ((dn : Nat) : Int) ((bn : Nat) : Int))).bl dn bn).er + 1) }).goesR) dn bn pre.length).dl ((((s.ask (s.eraseOk ((dn : Nat) : Int) ((bn : Nat) : Int))).setB dn bn { (s.ask (s.eraseOk ((dn : Nat) : Int) ((bn : Nat) : Int))).bl dn bn with er := IntKind.i64.wrap (((s.ask (s.eraseOk ((dn : Nat) : Int) ((bn : Nat) : Int))).bl dn bn).er + 1) }).goes).ix dn bn pre.length)) onesW (((((s.ask (s.eraseOk ((dn : Nat) : Int) ((bn : Nat) : Int))).setB dn bn { (s.ask (s.eraseOk ((dn : Nat) : Int) ((bn : Nat) : Int))).bl dn bn with er := IntKind.i64.wrap (((s.ask (s.eraseOk ((dn : Nat) : Int) ((bn : Nat) : Int))).bl dn bn).er + 1) }).goes).eraseTo (((s.ask (s.eraseOk ((dn : Nat) : Int) ((bn : Nat) : Int))).setB dn bn { (s.ask (s.eraseOk ((dn : Nat) : Int) ((bn : Nat) : Int))).bl dn bn with er := IntKind.i64.wrap (((s.ask (s.eraseOk ((dn : Nat) : Int) ((bn : Nat) : Int))).bl dn bn).er + 1) }).goesR) dn bn pre.length).mask))) (or1_skip (or1_skip (or1_skip (or1_skip (or1_skip (or1_mono (or1_mono (ors_mono no_any))))))))] : List (RF (Or1 tb (Or1 nbx (Ors L.S No))))).getD i_ (RF.any (Or1 tb (Or1 nbx (Ors L.S No))))) (fun _ w_ => Arr 27 nbx [(ptr L.bN 0)] w_ ∧ Arr 4 tb [(Value.bool (((s.ask (s.eraseOk ((dn : Nat) : Int) ((bn : Nat) : Int))).setB dn bn { (s.ask (s.eraseOk ((dn : Nat) : Int) ((bn : Nat) : Int))).bl dn bn with er := IntKind.i64.wrap (((s.ask (s.eraseOk ((dn : Nat) : Int) ((bn : Nat) : Int))).bl dn bn).er + 1) }).goesR))] w_ ∧ Arr 3 b44 [(eN bn)] w_ ∧ Arr 65 b42 [(eN ((((s.ask (s.eraseOk ((dn : Nat) : Int) ((bn : Nat) : Int))).setB dn bn { (s.ask (s.eraseOk ((dn : Nat) : Int) ((bn : Nat) : Int))).bl dn bn with er := IntKind.i64.wrap (((s.ask (s.eraseOk ((dn : Nat) : Int) ((bn : Nat) : Int))).bl dn bn).er + 1) }).goes).gD)), (eN ((((s.ask (s.eraseOk ((dn : Nat) : Int) ((bn : Nat) : Int))).setB dn bn { (s.ask (s.eraseOk ((dn : Nat) : Int) ((bn : Nat) : Int))).bl dn bn with er := IntKind.i64.wrap (((s.ask (s.eraseOk ((dn : Nat) : Int) ((bn : Nat) : Int))).bl dn bn).er + 1) }).goes).gB)), (eN ((((s.ask (s.eraseOk ((dn : Nat) : Int) ((bn : Nat) : Int))).setB dn bn { (s.ask (s.eraseOk ((dn : Nat) : Int) ((bn : Nat) : Int))).bl dn bn with er := IntKind.i64.wrap (((s.ask (s.eraseOk ((dn : Nat) : Int) ((bn : Nat) : Int))).bl dn bn).er + 1) }).goes).gP)), (sli L.bD 0 ((((s.ask (s.eraseOk ((dn : Nat) : Int) ((bn : Nat) : Int))).setB dn bn { (s.ask (s.eraseOk ((dn : Nat) : Int) ((bn : Nat) : Int))).bl dn bn with er := IntKind.i64.wrap (((s.ask (s.eraseOk ((dn : Nat) : Int) ((bn : Nat) : Int))).bl dn bn).er + 1) }).goes).n) ((((s.ask (s.eraseOk ((dn : Nat) : Int) ((bn : Nat) : Int))).setB dn bn { (s.ask (s.eraseOk ((dn : Nat) : Int) ((bn : Nat) : Int))).bl dn bn with er := IntKind.i64.wrap (((s.ask (s.eraseOk ((dn : Nat) : Int) ((bn : Nat) : Int))).bl dn bn).er + 1) }).goes).n))] w_ ∧ Arr 3 b43 [(eN dn)] w_ ∧ Dead D_ w_ ∧ Dead L_ w_ ∧ Nd L ((((s.ask (s.eraseOk ((dn : Nat) : Int) ((bn : Nat) : Int))).setB dn bn { (s.ask (s.eraseOk ((dn : Nat) : Int) ((bn : Nat) : Int))).bl dn bn with er := IntKind.i64.wrap (((s.ask (s.eraseOk ((dn : Nat) : Int) ((bn : Nat) : Int))).bl dn bn).er + 1) }).goes).eraseTo (((s.ask (s.eraseOk ((dn : Nat) : Int) ((bn : Nat) : Int))).setB dn bn { (s.ask (s.eraseOk ((dn : Nat) : Int) ((bn : Nat) : Int))).bl dn bn with er := IntKind.i64.wrap (((s.ask (s.eraseOk ((dn : Nat) : Int) ((bn : Nat) : Int))).bl dn bn).er + 1) }).goesR) dn bn pre.length) (Or1 L_ (Or1 D_ (Or1 b44 (Or1 b43 (Or1 b42 (Or1 tb (Or1 nbx X))))))) w_) (fun v55 => ([(ptr L.bN 0), (eN dn), (eN bn), (ptr nbx 0), undef, undef, (eN 0), (eN (s.askR (s.eraseOk ((dn : Nat) : Int) ((bn : Nat) : Int)))), (ptr tb 0), undef, (ptr L.bD ((((s.ask (s.eraseOk ((dn : Nat) : Int) ((bn : Nat) : Int))).setB dn bn { (s.ask (s.eraseOk ((dn : Nat) : Int) ((bn : Nat) : Int))).bl dn bn with er := IntKind.i64.wrap (((s.ask (s.eraseOk ((dn : Nat) : Int) ((bn : Nat) : Int))).bl dn bn).er + 1) }).goes).ix dn bn pre.length)), (ptr L.bN 0), (ptr L.bN 0), (eN dn), (eN bn), (Value.bool true), (Value.bool true), (ptr L.bN 0), (eN dn), (eN bn), (Value.bool false), (Value.bool true), (Value.bool true), (eN (s.askR (s.eraseOk ((dn : Nat) : Int) ((bn : Nat) : Int)))), (eN (s.askR (s.eraseOk ((dn : Nat) : Int) ((bn : Nat) : Int)))), (Value.bool (!decide ((s.askR (s.eraseOk ((dn : Nat) : Int) ((bn : Nat) : Int))) = 0))), undef, (ptr L.bN 0), (ptr L.bN 0), (ptr L.bN 11), L.ub, (eN dn), (ixp L.ub dn), (sli (L.bk.getD dn 0) 0 ((s.ask (s.eraseOk ((dn : Nat) : Int) ((bn : Nat) : Int))).gB) ((s.ask (s.eraseOk ((dn : Nat) : Int) ((bn : Nat) : Int))).gB)), (eN bn), (ptr (L.bk.getD dn 0) (bn * 3)), (ptr (L.bk.getD dn 0) (bn * 3 + 1)), (eI (((s.ask (s.eraseOk ((dn : Nat) : Int) ((bn : Nat) : Int))).bl dn bn).er)), (eI (IntKind.i64.wrap (((s.ask (s.eraseOk ((dn : Nat) : Int) ((bn : Nat) : Int))).bl dn bn).er + 1))), (ptr (L.bk.getD dn 0) (bn * 3)), (ptr (L.bk.getD dn 0) (bn * 3 + 1)), (ptr L.bN 0), (Value.bool (((s.ask (s.eraseOk ((dn : Nat) : Int) ((bn : Nat) : Int))).setB dn bn { (s.ask (s.eraseOk ((dn : Nat) : Int) ((bn : Nat) : Int))).bl dn bn with er := IntKind.i64.wrap (((s.ask (s.eraseOk ((dn : Nat) : Int) ((bn : Nat) : Int))).bl dn bn).er + 1) }).goesR)), (ptr L.bN 0), (ptr L.bN 0), (ptr L.bN 3), (Value.agg #[(eN ((((s.ask (s.eraseOk ((dn : Nat) : Int) ((bn : Nat) : Int))).setB dn bn { (s.ask (s.eraseOk ((dn : Nat) : Int) ((bn : Nat) : Int))).bl dn bn with er := IntKind.i64.wrap (((s.ask (s.eraseOk ((dn : Nat) : Int) ((bn : Nat) : Int))).bl dn bn).er + 1) }).goes).gD)), (eN ((((s.ask (s.eraseOk ((dn : Nat) : Int) ((bn : Nat) : Int))).setB dn bn { (s.ask (s.eraseOk ((dn : Nat) : Int) ((bn : Nat) : Int))).bl dn bn with er := IntKind.i64.wrap (((s.ask (s.eraseOk ((dn : Nat) : Int) ((bn : Nat) : Int))).bl dn bn).er + 1) }).goes).gB)), (eN ((((s.ask (s.eraseOk ((dn : Nat) : Int) ((bn : Nat) : Int))).setB dn bn { (s.ask (s.eraseOk ((dn : Nat) : Int) ((bn : Nat) : Int))).bl dn bn with er := IntKind.i64.wrap (((s.ask (s.eraseOk ((dn : Nat) : Int) ((bn : Nat) : Int))).bl dn bn).er + 1) }).goes).gP)), (sli L.bD 0 ((((s.ask (s.eraseOk ((dn : Nat) : Int) ((bn : Nat) : Int))).setB dn bn { (s.ask (s.eraseOk ((dn : Nat) : Int) ((bn : Nat) : Int))).bl dn bn with er := IntKind.i64.wrap (((s.ask (s.eraseOk ((dn : Nat) : Int) ((bn : Nat) : Int))).bl dn bn).er + 1) }).goes).n) ((((s.ask (s.eraseOk ((dn : Nat) : Int) ((bn : Nat) : Int))).setB dn bn { (s.ask (s.eraseOk ((dn : Nat) : Int) ((bn : Nat) : Int))).bl dn bn with er := IntKind.i64.wrap (((s.ask (s.eraseOk ((dn : Nat) : Int) ((bn : Nat) : Int))).bl dn bn).er + 1) }).goes).n))]), (eN dn), (eN bn), (Value.func (.func 63) #[] #[(ptr b42 0), (ptr b43 0), (ptr b44 0)]), (eN pre.length), (ptr L.bD ((((s.ask (s.eraseOk ((dn : Nat) : Int) ((bn : Nat) : Int))).setB dn bn { (s.ask (s.eraseOk ((dn : Nat) : Int) ((bn : Nat) : Int))).bl dn bn with er := IntKind.i64.wrap (((s.ask (s.eraseOk ((dn : Nat) : Int) ((bn : Nat) : Int))).bl dn bn).er + 1) }).goes).ix dn bn pre.length)), (Value.bool (((s.ask (s.eraseOk ((dn : Nat) : Int) ((bn : Nat) : Int))).setB dn bn { (s.ask (s.eraseOk ((dn : Nat) : Int) ((bn : Nat) : Int))).bl dn bn with er := IntKind.i64.wrap (((s.ask (s.eraseOk ((dn : Nat) : Int) ((bn : Nat) : Int))).bl dn bn).er + 1) }).goesR)), (v55 0), (v55 1), (v55 2), (v55 3), (v55 4), (v55 5), (v55 6), (v55 7), (v55 8), (v55 9), (v55 10)] ++ (us 14))) (fun v55 => ([(ptr L.bN 0), (eN dn), (eN bn), (ptr nbx 0), undef, undef, (eN 0), (eN (s.askR (s.eraseOk ((dn : Nat) : Int) ((bn : Nat) : Int)))), (ptr tb 0), undef, (ptr L.bD ((((s.ask (s.eraseOk ((dn : Nat) : Int) ((bn : Nat) : Int))).setB dn bn { (s.ask (s.eraseOk ((dn : Nat) : Int) ((bn : Nat) : Int))).bl dn bn with er := IntKind.i64.wrap (((s.ask (s.eraseOk ((dn : Nat) : Int) ((bn : Nat) : Int))).bl dn bn).er + 1) }).goes).ix dn bn pre.length)), (ptr L.bN 0), (ptr L.bN 0), (eN dn), (eN bn), (Value.bool true), (Value.bool true), (ptr L.bN 0), (eN dn), (eN bn), (Value.bool false), (Value.bool true), (Value.bool true), (eN (s.askR (s.eraseOk ((dn : Nat) : Int) ((bn : Nat) : Int)))), (eN (s.askR (s.eraseOk ((dn : Nat) : Int) ((bn : Nat) : Int)))), (Value.bool (!decide ((s.askR (s.eraseOk ((dn : Nat) : Int) ((bn : Nat) : Int))) = 0))), undef, (ptr L.bN 0), (ptr L.bN 0), (ptr L.bN 11), L.ub, (eN dn), (ixp L.ub dn), (sli (L.bk.getD dn 0) 0 ((s.ask (s.eraseOk ((dn : Nat) : Int) ((bn : Nat) : Int))).gB) ((s.ask (s.eraseOk ((dn : Nat) : Int) ((bn : Nat) : Int))).gB)), (eN bn), (ptr (L.bk.getD dn 0) (bn * 3)), (ptr (L.bk.getD dn 0) (bn * 3 + 1)), (eI (((s.ask (s.eraseOk ((dn : Nat) : Int) ((bn : Nat) : Int))).bl dn bn).er)), (eI (IntKind.i64.wrap (((s.ask (s.eraseOk ((dn : Nat) : Int) ((bn : Nat) : Int))).bl dn bn).er + 1))), (ptr (L.bk.getD dn 0) (bn * 3)), (ptr (L.bk.getD dn 0) (bn * 3 + 1)), (ptr L.bN 0), (Value.bool (((s.ask (s.eraseOk ((dn : Nat) : Int) ((bn : Nat) : Int))).setB dn bn { (s.ask (s.eraseOk ((dn : Nat) : Int) ((bn : Nat) : Int))).bl dn bn with er := IntKind.i64.wrap (((s.ask (s.eraseOk ((dn : Nat) : Int) ((bn : Nat) : Int))).bl dn bn).er + 1) }).goesR)), (ptr L.bN 0), (ptr L.bN 0), (ptr L.bN 3), (Value.agg #[(eN ((((s.ask (s.eraseOk ((dn : Nat) : Int) ((bn : Nat) : Int))).setB dn bn { (s.ask (s.eraseOk ((dn : Nat) : Int) ((bn : Nat) : Int))).bl dn bn with er := IntKind.i64.wrap (((s.ask (s.eraseOk ((dn : Nat) : Int) ((bn : Nat) : Int))).bl dn bn).er + 1) }).goes).gD)), (eN ((((s.ask (s.eraseOk ((dn : Nat) : Int) ((bn : Nat) : Int))).setB dn bn { (s.ask (s.eraseOk ((dn : Nat) : Int) ((bn : Nat) : Int))).bl dn bn with er := IntKind.i64.wrap (((s.ask (s.eraseOk ((dn : Nat) : Int) ((bn : Nat) : Int))).bl dn bn).er + 1) }).goes).gB)), (eN ((((s.ask (s.eraseOk ((dn : Nat) : Int) ((bn : Nat) : Int))).setB dn bn { (s.ask (s.eraseOk ((dn : Nat) : Int) ((bn : Nat) : Int))).bl dn bn with er := IntKind.i64.wrap (((s.ask (s.eraseOk ((dn : Nat) : Int) ((bn : Nat) : Int))).bl dn bn).er + 1) }).goes).gP)), (sli L.bD 0 ((((s.ask (s.eraseOk ((dn : Nat) : Int) ((bn : Nat) : Int))).setB dn bn { (s.ask (s.eraseOk ((dn : Nat) : Int) ((bn : Nat) : Int))).bl dn bn with er := IntKind.i64.wrap (((s.ask (s.eraseOk ((dn : Nat) : Int) ((bn : Nat) : Int))).bl dn bn).er + 1) }).goes).n) ((((s.ask (s.eraseOk ((dn : Nat) : Int) ((bn : Nat) : Int))).setB dn bn { (s.ask (s.eraseOk ((dn : Nat) : Int) ((bn : Nat) : Int))).bl dn bn with er := IntKind.i64.wrap (((s.ask (s.eraseOk ((dn : Nat) : Int) ((bn : Nat) : Int))).bl dn bn).er + 1) }).goes).n))]), (eN dn), (eN bn), (Value.func (.func 63) #[] #[(ptr b42 0), (ptr b43 0), (ptr b44 0)]), (eN pre.length), (ptr L.bD ((((s.ask (s.eraseOk ((dn : Nat) : Int) ((bn : Nat) : Int))).setB dn bn { (s.ask (s.eraseOk ((dn : Nat) : Int) ((bn : Nat) : Int))).bl dn bn with er := IntKind.i64.wrap (((s.ask (s.eraseOk ((dn : Nat) : Int) ((bn : Nat) : Int))).bl dn bn).er + 1) }).goes).ix dn bn pre.length)), (Value.bool (((s.ask (s.eraseOk ((dn : Nat) : Int) ((bn : Nat) : Int))).setB dn bn { (s.ask (s.eraseOk ((dn : Nat) : Int) ((bn : Nat) : Int))).bl dn bn with er := IntKind.i64.wrap (((s.ask (s.eraseOk ((dn : Nat) : Int) ((bn : Nat) : Int))).bl dn bn).er + 1) }).goesR)), (v55 0), (v55 1), (v55 2), (v55 3), (v55 4), (v55 5), (v55 6), (v55 7), (v55 8), (v55 9)] ++ (us 15))) s_mx (by kernel_rfl) rfl (by decide) (by rfl) (by kernel_rfl) (by kernel_rfl) (by kernel_rfl) (by rfl) (fun v_ => by kernel_rfl) (fun v_ => by kernel_rfl) (fun _ => fun w_ w2_ h ho => by obtain ⟨r_a13, r_a38, r_a50, r_a48, r_a49, r_aD_, r_aL_, r_hN⟩ := h; exact ⟨r_a13.step0 ho, r_a38.step0 ho, r_a50.step0 ho, r_a48.step0 ho, r_a49.step0 ho, r_aD_.step0 ho, r_aL_.step0 ho, r_hN.step0 ho⟩) ⟨a13, a38, a50, a48, a49, aD_, aL_, hN⟩ ?_ ?_ ?_
    ·
     refine ls_cons ?_ ?_
     ·
      intro v55 lo hi w_ k_ hO hd _ _ hk_ _ hR hold
      obtain ⟨r_a13, r_a38, r_a50, r_a48, r_a49, r_aD_, r_aL_, r_hN⟩ := hR
      clear hd hold
      refine ⟨_, rfl, gd rfl ?_⟩
      exact Does.is (d_move rfl)
     refine ls_cons ?_ ?_
     ·
      intro v55 lo hi w_ k_ hO hd _ _ hk_ _ hR hold
      obtain ⟨r_a13, r_a38, r_a50, r_a48, r_a49, r_aD_, r_aL_, r_hN⟩ := hR
      clear hd hold
      refine ⟨_, rfl, gd rfl ?_⟩
      exact Does.is (d_move rfl)
     refine ls_cons ?_ ?_
     ·
      intro v55 lo hi w_ k_ hO hd _ _ hk_ _ hR hold
      obtain ⟨r_a13, r_a38, r_a50, r_a48, r_a49, r_aD_, r_aL_, r_hN⟩ := hR
      have e1 : v55 1 = (ptr L.bD ((((s.ask (s.eraseOk ((dn : Nat) : Int) ((bn : Nat) : Int))).setB dn bn { (s.ask (s.eraseOk ((dn : Nat) : Int) ((bn : Nat) : Int))).bl dn bn with er := IntKind.i64.wrap (((s.ask (s.eraseOk ((dn : Nat) : Int) ((bn : Nat) : Int))).bl dn bn).er + 1) }).goes).ix dn bn pre.length)) := hd 1 (by kernel_rfl)
      clear hd hold
      refine ⟨_, rfl, gd rfl ?_⟩
      exact Does.is (d_nilCheck (b := L.bD) (o := ((((s.ask (s.eraseOk ((dn : Nat) : Int) ((bn : Nat) : Int))).setB dn bn { (s.ask (s.eraseOk ((dn : Nat) : Int) ((bn : Nat) : Int))).bl dn bn with er := IntKind.i64.wrap (((s.ask (s.eraseOk ((dn : Nat) : Int) ((bn : Nat) : Int))).bl dn bn).er + 1) }).goes).ix dn bn pre.length)) e1)
     refine ls_cons ?_ ?_
     ·
      intro v55 lo hi w_ k_ hO hd _ _ hk_ _ hR hold
      obtain ⟨r_a13, r_a38, r_a50, r_a48, r_a49, r_aD_, r_aL_, r_hN⟩ := hR
      have e2 : v55 2 = (ptr L.bD ((((s.ask (s.eraseOk ((dn : Nat) : Int) ((bn : Nat) : Int))).setB dn bn { (s.ask (s.eraseOk ((dn : Nat) : Int) ((bn : Nat) : Int))).bl dn bn with er := IntKind.i64.wrap (((s.ask (s.eraseOk ((dn : Nat) : Int) ((bn : Nat) : Int))).bl dn bn).er + 1) }).goes).ix dn bn pre.length)) := hd 2 (by kernel_rfl)
      clear hd hold
      refine ⟨_, rfl, gd rfl ?_⟩
      refine Does.mono (nd_ldD (i := ((((s.ask (s.eraseOk ((dn : Nat) : Int) ((bn : Nat) : Int))).setB dn bn { (s.ask (s.eraseOk ((dn : Nat) : Int) ((bn : Nat) : Int))).bl dn bn with er := IntKind.i64.wrap (((s.ask (s.eraseOk ((dn : Nat) : Int) ((bn : Nat) : Int))).bl dn bn).er + 1) }).goes).ix dn bn pre.length)) (Y := (Or1 L_ (Or1 D_ (Or1 b44 (Or1 b43 (Or1 b42 (Or1 tb (Or1 nbx (Ors L.S X))))))))) r_hN (xo_or1 (xo_or1 (xo_or1 (xo_or1 (xo_or1 (xo_or1 (xo_or1 xo_s))))))) ⟨_, Try.underlying36, rfl⟩ e2 (NS.ix_lt (by first | assumption | omega) (by first | assumption | omega) (by first | assumption | omega))) (fun u w' h => ⟨h.2 ▸ h.1, h.2 ▸ Only.refl _ _⟩)
     refine ls_cons ?_ ?_
     ·
      intro v55 lo hi w_ k_ hO hd _ _ hk_ _ hR hold
      obtain ⟨r_a13, r_a38, r_a50, r_a48, r_a49, r_aD_, r_aL_, r_hN⟩ := hR
      clear hd hold
      refine ⟨_, rfl, gd rfl ?_⟩
      refine Does.mono (R := ROw 5 eB onesW w_) ?_ (fun u w' h => ⟨(h.ps).1.less (or1_old r_aL_.lt (or1_old r_aD_.lt (or1_old r_a50.lt (or1_old r_a49.lt (or1_old r_a48.lt (or1_old r_a38.lt (or1_old r_a13.lt (ors_old r_hN.lt (old_old (Nat.le_trans oW.size hO.size)))))))))), (h.ps).2⟩)
      exact d_call (xl := []) (al := []) Try.func39 (by kernel_rfl) rfl rfl rfl (blank_ok _)
     refine ls_cons ?_ ?_
     ·
      intro v55 lo hi w_ k_ hO hd _ _ hk_ _ hR hold
      obtain ⟨r_a13, r_a38, r_a50, r_a48, r_a49, r_aD_, r_aL_, r_hN⟩ := hR
      clear hd hold
      refine ⟨_, rfl, gd rfl ?_⟩
      exact Does.is (d_load (v := (ptr L.bN 0)) ⟨_, Try.underlying27, rfl⟩ rfl r_a13 rfl)
     refine ls_cons ?_ ?_
     ·
      intro v55 lo hi w_ k_ hO hd _ _ hk_ _ hR hold
      obtain ⟨r_a13, r_a38, r_a50, r_a48, r_a49, r_aD_, r_aL_, r_hN⟩ := hR
      have e5 : v55 5 = (ptr L.bN 0) := hd 5 (by kernel_rfl)
      clear hd hold
      refine ⟨_, rfl, gd rfl ?_⟩
      exact Does.is (d_nilCheck (b := L.bN) (o := 0) e5)
     refine ls_cons ?_ ?_
     ·
      intro v55 lo hi w_ k_ hO hd _ _ hk_ _ hR hold
      obtain ⟨r_a13, r_a38, r_a50, r_a48, r_a49, r_aD_, r_aL_, r_hN⟩ := hR
      have e6 : v55 6 = (ptr L.bN 0) := hd 6 (by kernel_rfl)
      clear hd hold
      refine ⟨_, rfl, gd rfl ?_⟩
      exact Does.is (d_fieldAddr (j := 13) Try.underlying73 rfl s_ti36 (by decide) e6 rfl)
     refine ls_cons ?_ ?_
     ·
      intro v55 lo hi w_ k_ hO hd _ _ hk_ _ hR hold
      obtain ⟨r_a13, r_a38, r_a50, r_a48, r_a49, r_aD_, r_aL_, r_hN⟩ := hR
      have e7 : v55 7 = (ptr L.bN 13) := hd 7 (by kernel_rfl)
      clear hd hold
      refine ⟨_, rfl, gd rfl ?_⟩
      refine Does.mono (nd_ldm (Y := (Or1 L_ (Or1 D_ (Or1 b44 (Or1 b43 (Or1 b42 (Or1 tb (Or1 nbx (Ors L.S X))))))))) r_hN (xo_or1 (xo_or1 (xo_or1 (xo_or1 (xo_or1 (xo_or1 (xo_or1 xo_s))))))) ⟨_, Try.underlying36, rfl⟩ e7) (fun u w' h => ⟨h.2 ▸ h.1, h.2 ▸ Only.refl _ _⟩)
     refine ls_cons ?_ ?_
     ·
      intro v55 lo hi w_ k_ hO hd _ _ hk_ _ hR hold
      obtain ⟨r_a13, r_a38, r_a50, r_a48, r_a49, r_aD_, r_aL_, r_hN⟩ := hR
      have d3 : Ps (Or1 L_ (Or1 D_ (Or1 b44 (Or1 b43 (Or1 b42 (Or1 tb (Or1 nbx (Ors L.S X)))))))) (Seq kB (((((s.ask (s.eraseOk ((dn : Nat) : Int) ((bn : Nat) : Int))).setB dn bn { (s.ask (s.eraseOk ((dn : Nat) : Int) ((bn : Nat) : Int))).bl dn bn with er := IntKind.i64.wrap (((s.ask (s.eraseOk ((dn : Nat) : Int) ((bn : Nat) : Int))).bl dn bn).er + 1) }).goes).eraseTo (((s.ask (s.eraseOk ((dn : Nat) : Int) ((bn : Nat) : Int))).setB dn bn { (s.ask (s.eraseOk ((dn : Nat) : Int) ((bn : Nat) : Int))).bl dn bn with er := IntKind.i64.wrap (((s.ask (s.eraseOk ((dn : Nat) : Int) ((bn : Nat) : Int))).bl dn bn).er + 1) }).goesR) dn bn pre.length).dl ((((s.ask (s.eraseOk ((dn : Nat) : Int) ((bn : Nat) : Int))).setB dn bn { (s.ask (s.eraseOk ((dn : Nat) : Int) ((bn : Nat) : Int))).bl dn bn with er := IntKind.i64.wrap (((s.ask (s.eraseOk ((dn : Nat) : Int) ((bn : Nat) : Int))).bl dn bn).er + 1) }).goes).ix dn bn pre.length)) (v55 3)) w_ := hd 3 (by kernel_rfl)
      have d4 : Ps (Or1 L_ (Or1 D_ (Or1 b44 (Or1 b43 (Or1 b42 (Or1 tb (Or1 nbx (Ors L.S (Old W.heap.size))))))))) (Seq kB onesW (v55 4)) w_ := hd 4 (by kernel_rfl)
      have d8 : Ps (Or1 L_ (Or1 D_ (Or1 b44 (Or1 b43 (Or1 b42 (Or1 tb (Or1 nbx (Ors L.S X)))))))) (Seq kB (((((s.ask (s.eraseOk ((dn : Nat) : Int) ((bn : Nat) : Int))).setB dn bn { (s.ask (s.eraseOk ((dn : Nat) : Int) ((bn : Nat) : Int))).bl dn bn with er := IntKind.i64.wrap (((s.ask (s.eraseOk ((dn : Nat) : Int) ((bn : Nat) : Int))).bl dn bn).er + 1) }).goes).eraseTo (((s.ask (s.eraseOk ((dn : Nat) : Int) ((bn : Nat) : Int))).setB dn bn { (s.ask (s.eraseOk ((dn : Nat) : Int) ((bn : Nat) : Int))).bl dn bn with er := IntKind.i64.wrap (((s.ask (s.eraseOk ((dn : Nat) : Int) ((bn : Nat) : Int))).bl dn bn).er + 1) }).goesR) dn bn pre.length).mask) (v55 8)) w_ := hd 8 (by kernel_rfl)
      clear hd hold
      refine ⟨_, rfl, gd rfl ?_⟩
      refine Does.mono (R := ROw 5 eB (mixR (((((s.ask (s.eraseOk ((dn : Nat) : Int) ((bn : Nat) : Int))).setB dn bn { (s.ask (s.eraseOk ((dn : Nat) : Int) ((bn : Nat) : Int))).bl dn bn with er := IntKind.i64.wrap (((s.ask (s.eraseOk ((dn : Nat) : Int) ((bn : Nat) : Int))).bl dn bn).er + 1) }).goes).eraseTo (((s.ask (s.eraseOk ((dn : Nat) : Int) ((bn : Nat) : Int))).setB dn bn { (s.ask (s.eraseOk ((dn : Nat) : Int) ((bn : Nat) : Int))).bl dn bn with er := IntKind.i64.wrap (((s.ask (s.eraseOk ((dn : Nat) : Int) ((bn : Nat) : Int))).bl dn bn).er + 1) }).goesR) dn bn pre.length).dl ((((s.ask (s.eraseOk ((dn : Nat) : Int) ((bn : Nat) : Int))).setB dn bn { (s.ask (s.eraseOk ((dn : Nat) : Int) ((bn : Nat) : Int))).bl dn bn with er := IntKind.i64.wrap (((s.ask (s.eraseOk ((dn : Nat) : Int) ((bn : Nat) : Int))).bl dn bn).er + 1) }).goes).ix dn bn pre.length)) onesW (((((s.ask (s.eraseOk ((dn : Nat) : Int) ((bn : Nat) : Int))).setB dn bn { (s.ask (s.eraseOk ((dn : Nat) : Int) ((bn : Nat) : Int))).bl dn bn with er := IntKind.i64.wrap (((s.ask (s.eraseOk ((dn : Nat) : Int) ((bn : Nat) : Int))).bl dn bn).er + 1) }).goes).eraseTo (((s.ask (s.eraseOk ((dn : Nat) : Int) ((bn : Nat) : Int))).setB dn bn { (s.ask (s.eraseOk ((dn : Nat) : Int) ((bn : Nat) : Int))).bl dn bn with er := IntKind.i64.wrap (((s.ask (s.eraseOk ((dn : Nat) : Int) ((bn : Nat) : Int))).bl dn bn).er + 1) }).goesR) dn bn pre.length).mask)) w_) ?_ (fun u w' h => ⟨(h.ps).1.less (or1_old r_aL_.lt (or1_old r_aD_.lt (or1_old r_a50.lt (or1_old r_a49.lt (or1_old r_a48.lt (or1_old r_a38.lt (or1_old r_a13.lt (ors_old r_hN.lt (old_old (Nat.le_trans oW.size hO.size)))))))))), (h.ps).2⟩)
      exact d_call (xl := [.tmp 56, .tmp 57, .tmp 61]) (al := [(v55 3), (v55 4), (v55 8)]) Try.func50 (by kernel_rfl) rfl rfl rfl (bitsMix_ok (((((s.ask (s.eraseOk ((dn : Nat) : Int) ((bn : Nat) : Int))).setB dn bn { (s.ask (s.eraseOk ((dn : Nat) : Int) ((bn : Nat) : Int))).bl dn bn with er := IntKind.i64.wrap (((s.ask (s.eraseOk ((dn : Nat) : Int) ((bn : Nat) : Int))).bl dn bn).er + 1) }).goes).eraseTo (((s.ask (s.eraseOk ((dn : Nat) : Int) ((bn : Nat) : Int))).setB dn bn { (s.ask (s.eraseOk ((dn : Nat) : Int) ((bn : Nat) : Int))).bl dn bn with er := IntKind.i64.wrap (((s.ask (s.eraseOk ((dn : Nat) : Int) ((bn : Nat) : Int))).bl dn bn).er + 1) }).goesR) dn bn pre.length).dl ((((s.ask (s.eraseOk ((dn : Nat) : Int) ((bn : Nat) : Int))).setB dn bn { (s.ask (s.eraseOk ((dn : Nat) : Int) ((bn : Nat) : Int))).bl dn bn with er := IntKind.i64.wrap (((s.ask (s.eraseOk ((dn : Nat) : Int) ((bn : Nat) : Int))).bl dn bn).er + 1) }).goes).ix dn bn pre.length)) onesW (((((s.ask (s.eraseOk ((dn : Nat) : Int) ((bn : Nat) : Int))).setB dn bn { (s.ask (s.eraseOk ((dn : Nat) : Int) ((bn : Nat) : Int))).bl dn bn with er := IntKind.i64.wrap (((s.ask (s.eraseOk ((dn : Nat) : Int) ((bn : Nat) : Int))).bl dn bn).er + 1) }).goes).eraseTo (((s.ask (s.eraseOk ((dn : Nat) : Int) ((bn : Nat) : Int))).setB dn bn { (s.ask (s.eraseOk ((dn : Nat) : Int) ((bn : Nat) : Int))).bl dn bn with er := IntKind.i64.wrap (((s.ask (s.eraseOk ((dn : Nat) : Int) ((bn : Nat) : Int))).bl dn bn).er + 1) }).goesR) dn bn pre.length).mask) (v55 3) (v55 4) (v55 8) _ (Ps.no d3) (Ps.no d4) (Ps.no d8) (by first | omega | (simp; done) | (simp; omega)) (by have := onesW_len; first | omega | (simp; done) | (simp; omega)) (by first | omega | (simp; done) | (simp; omega)))
     exact ls_nil
    ·
     exact ms_nil
    intro v55 lo_ hi_ w56 o57 hd iv_ hR
    have e0 : v55 0 = (ptr L.bD ((((s.ask (s.eraseOk ((dn : Nat) : Int) ((bn : Nat) : Int))).setB dn bn { (s.ask (s.eraseOk ((dn : Nat) : Int) ((bn : Nat) : Int))).bl dn bn with er := IntKind.i64.wrap (((s.ask (s.eraseOk ((dn : Nat) : Int) ((bn : Nat) : Int))).bl dn bn).er + 1) }).goes).ix dn bn pre.length)) := hd 0 (by decide)
    have e1 : v55 1 = (ptr L.bD ((((s.ask (s.eraseOk ((dn : Nat) : Int) ((bn : Nat) : Int))).setB dn bn { (s.ask (s.eraseOk ((dn : Nat) : Int) ((bn : Nat) : Int))).bl dn bn with er := IntKind.i64.wrap (((s.ask (s.eraseOk ((dn : Nat) : Int) ((bn : Nat) : Int))).bl dn bn).er + 1) }).goes).ix dn bn pre.length)) := hd 1 (by decide)
    have e2 : v55 2 = (ptr L.bD ((((s.ask (s.eraseOk ((dn : Nat) : Int) ((bn : Nat) : Int))).setB dn bn { (s.ask (s.eraseOk ((dn : Nat) : Int) ((bn : Nat) : Int))).bl dn bn with er := IntKind.i64.wrap (((s.ask (s.eraseOk ((dn : Nat) : Int) ((bn : Nat) : Int))).bl dn bn).er + 1) }).goes).ix dn bn pre.length)) := hd 2 (by decide)
    have e5 : v55 5 = (ptr L.bN 0) := hd 5 (by decide)
    have e6 : v55 6 = (ptr L.bN 0) := hd 6 (by decide)
    have e7 : v55 7 = (ptr L.bN 13) := hd 7 (by decide)
    have f_v55_3 : Ps (Or1 L_ (Or1 D_ (Or1 b44 (Or1 b43 (Or1 b42 (Or1 tb (Or1 nbx (Ors L.S X)))))))) (Seq kB (((((s.ask (s.eraseOk ((dn : Nat) : Int) ((bn : Nat) : Int))).setB dn bn { (s.ask (s.eraseOk ((dn : Nat) : Int) ((bn : Nat) : Int))).bl dn bn with er := IntKind.i64.wrap (((s.ask (s.eraseOk ((dn : Nat) : Int) ((bn : Nat) : Int))).bl dn bn).er + 1) }).goes).eraseTo (((s.ask (s.eraseOk ((dn : Nat) : Int) ((bn : Nat) : Int))).setB dn bn { (s.ask (s.eraseOk ((dn : Nat) : Int) ((bn : Nat) : Int))).bl dn bn with er := IntKind.i64.wrap (((s.ask (s.eraseOk ((dn : Nat) : Int) ((bn : Nat) : Int))).bl dn bn).er + 1) }).goesR) dn bn pre.length).dl ((((s.ask (s.eraseOk ((dn : Nat) : Int) ((bn : Nat) : Int))).setB dn bn { (s.ask (s.eraseOk ((dn : Nat) : Int) ((bn : Nat) : Int))).bl dn bn with er := IntKind.i64.wrap (((s.ask (s.eraseOk ((dn : Nat) : Int) ((bn : Nat) : Int))).bl dn bn).er + 1) }).goes).ix dn bn pre.length)) (v55 3)) w56 := hd 3 (by decide)
    have f_v55_4 : Ps (Or1 L_ (Or1 D_ (Or1 b44 (Or1 b43 (Or1 b42 (Or1 tb (Or1 nbx (Ors L.S (Old W.heap.size))))))))) (Seq kB onesW (v55 4)) w56 := hd 4 (by decide)
    have f_v55_8 : Ps (Or1 L_ (Or1 D_ (Or1 b44 (Or1 b43 (Or1 b42 (Or1 tb (Or1 nbx (Ors L.S X)))))))) (Seq kB (((((s.ask (s.eraseOk ((dn : Nat) : Int) ((bn : Nat) : Int))).setB dn bn { (s.ask (s.eraseOk ((dn : Nat) : Int) ((bn : Nat) : Int))).bl dn bn with er := IntKind.i64.wrap (((s.ask (s.eraseOk ((dn : Nat) : Int) ((bn : Nat) : Int))).bl dn bn).er + 1) }).goes).eraseTo (((s.ask (s.eraseOk ((dn : Nat) : Int) ((bn : Nat) : Int))).setB dn bn { (s.ask (s.eraseOk ((dn : Nat) : Int) ((bn : Nat) : Int))).bl dn bn with er := IntKind.i64.wrap (((s.ask (s.eraseOk ((dn : Nat) : Int) ((bn : Nat) : Int))).bl dn bn).er + 1) }).goesR) dn bn pre.length).mask) (v55 8)) w56 := hd 8 (by decide)
    have f_v55_9 : Ps (Or1 L_ (Or1 D_ (Or1 b44 (Or1 b43 (Or1 b42 (Or1 tb (Or1 nbx (Ors L.S (Old W.heap.size))))))))) (Seq kB (mixR (((((s.ask (s.eraseOk ((dn : Nat) : Int) ((bn : Nat) : Int))).setB dn bn { (s.ask (s.eraseOk ((dn : Nat) : Int) ((bn : Nat) : Int))).bl dn bn with er := IntKind.i64.wrap (((s.ask (s.eraseOk ((dn : Nat) : Int) ((bn : Nat) : Int))).bl dn bn).er + 1) }).goes).eraseTo (((s.ask (s.eraseOk ((dn : Nat) : Int) ((bn : Nat) : Int))).setB dn bn { (s.ask (s.eraseOk ((dn : Nat) : Int) ((bn : Nat) : Int))).bl dn bn with er := IntKind.i64.wrap (((s.ask (s.eraseOk ((dn : Nat) : Int) ((bn : Nat) : Int))).bl dn bn).er + 1) }).goesR) dn bn pre.length).dl ((((s.ask (s.eraseOk ((dn : Nat) : Int) ((bn : Nat) : Int))).setB dn bn { (s.ask (s.eraseOk ((dn : Nat) : Int) ((bn : Nat) : Int))).bl dn bn with er := IntKind.i64.wrap (((s.ask (s.eraseOk ((dn : Nat) : Int) ((bn : Nat) : Int))).bl dn bn).er + 1) }).goes).ix dn bn pre.length)) onesW (((((s.ask (s.eraseOk ((dn : Nat) : Int) ((bn : Nat) : Int))).setB dn bn { (s.ask (s.eraseOk ((dn : Nat) : Int) ((bn : Nat) : Int))).bl dn bn with er := IntKind.i64.wrap (((s.ask (s.eraseOk ((dn : Nat) : Int) ((bn : Nat) : Int))).bl dn bn).er + 1) }).goes).eraseTo (((s.ask (s.eraseOk ((dn : Nat) : Int) ((bn : Nat) : Int))).setB dn bn { (s.ask (s.eraseOk ((dn : Nat) : Int) ((bn : Nat) : Int))).bl dn bn with er := IntKind.i64.wrap (((s.ask (s.eraseOk ((dn : Nat) : Int) ((bn : Nat) : Int))).bl dn bn).er + 1) }).goesR) dn bn pre.length).mask)) (v55 9)) w56 := hd 9 (by decide)
    clear hd iv_ lo_ hi_
    refine wpL.flat ([(ptr L.bN 0), (eN dn), (eN bn), (ptr nbx 0), undef, undef, (eN 0), (eN (s.askR (s.eraseOk ((dn : Nat) : Int) ((bn : Nat) : Int)))), (ptr tb 0), undef, (ptr L.bD ((((s.ask (s.eraseOk ((dn : Nat) : Int) ((bn : Nat) : Int))).setB dn bn { (s.ask (s.eraseOk ((dn : Nat) : Int) ((bn : Nat) : Int))).bl dn bn with er := IntKind.i64.wrap (((s.ask (s.eraseOk ((dn : Nat) : Int) ((bn : Nat) : Int))).bl dn bn).er + 1) }).goes).ix dn bn pre.length)), (ptr L.bN 0), (ptr L.bN 0), (eN dn), (eN bn), (Value.bool true), (Value.bool true), (ptr L.bN 0), (eN dn), (eN bn), (Value.bool false), (Value.bool true), (Value.bool true), (eN (s.askR (s.eraseOk ((dn : Nat) : Int) ((bn : Nat) : Int)))), (eN (s.askR (s.eraseOk ((dn : Nat) : Int) ((bn : Nat) : Int)))), (Value.bool (!decide ((s.askR (s.eraseOk ((dn : Nat) : Int) ((bn : Nat) : Int))) = 0))), undef, (ptr L.bN 0), (ptr L.bN 0), (ptr L.bN 11), L.ub, (eN dn), (ixp L.ub dn), (sli (L.bk.getD dn 0) 0 ((s.ask (s.eraseOk ((dn : Nat) : Int) ((bn : Nat) : Int))).gB) ((s.ask (s.eraseOk ((dn : Nat) : Int) ((bn : Nat) : Int))).gB)), (eN bn), (ptr (L.bk.getD dn 0) (bn * 3)), (ptr (L.bk.getD dn 0) (bn * 3 + 1)), (eI (((s.ask (s.eraseOk ((dn : Nat) : Int) ((bn : Nat) : Int))).bl dn bn).er)), (eI (IntKind.i64.wrap (((s.ask (s.eraseOk ((dn : Nat) : Int) ((bn : Nat) : Int))).bl dn bn).er + 1))), (ptr (L.bk.getD dn 0) (bn * 3)), (ptr (L.bk.getD dn 0) (bn * 3 + 1)), (ptr L.bN 0), (Value.bool (((s.ask (s.eraseOk ((dn : Nat) : Int) ((bn : Nat) : Int))).setB dn bn { (s.ask (s.eraseOk ((dn : Nat) : Int) ((bn : Nat) : Int))).bl dn bn with er := IntKind.i64.wrap (((s.ask (s.eraseOk ((dn : Nat) : Int) ((bn : Nat) : Int))).bl dn bn).er + 1) }).goesR)), (ptr L.bN 0), (ptr L.bN 0), (ptr L.bN 3), (Value.agg #[(eN ((((s.ask (s.eraseOk ((dn : Nat) : Int) ((bn : Nat) : Int))).setB dn bn { (s.ask (s.eraseOk ((dn : Nat) : Int) ((bn : Nat) : Int))).bl dn bn with er := IntKind.i64.wrap (((s.ask (s.eraseOk ((dn : Nat) : Int) ((bn : Nat) : Int))).bl dn bn).er + 1) }).goes).gD)), (eN ((((s.ask (s.eraseOk ((dn : Nat) : Int) ((bn : Nat) : Int))).setB dn bn { (s.ask (s.eraseOk ((dn : Nat) : Int) ((bn : Nat) : Int))).bl dn bn with er := IntKind.i64.wrap (((s.ask (s.eraseOk ((dn : Nat) : Int) ((bn : Nat) : Int))).bl dn bn).er + 1) }).goes).gB)), (eN ((((s.ask (s.eraseOk ((dn : Nat) : Int) ((bn : Nat) : Int))).setB dn bn { (s.ask (s.eraseOk ((dn : Nat) : Int) ((bn : Nat) : Int))).bl dn bn with er := IntKind.i64.wrap (((s.ask (s.eraseOk ((dn : Nat) : Int) ((bn : Nat) : Int))).bl dn bn).er + 1) }).goes).gP)), (sli L.bD 0 ((((s.ask (s.eraseOk ((dn : Nat) : Int) ((bn : Nat) : Int))).setB dn bn { (s.ask (s.eraseOk ((dn : Nat) : Int) ((bn : Nat) : Int))).bl dn bn with er := IntKind.i64.wrap (((s.ask (s.eraseOk ((dn : Nat) : Int) ((bn : Nat) : Int))).bl dn bn).er + 1) }).goes).n) ((((s.ask (s.eraseOk ((dn : Nat) : Int) ((bn : Nat) : Int))).setB dn bn { (s.ask (s.eraseOk ((dn : Nat) : Int) ((bn : Nat) : Int))).bl dn bn with er := IntKind.i64.wrap (((s.ask (s.eraseOk ((dn : Nat) : Int) ((bn : Nat) : Int))).bl dn bn).er + 1) }).goes).n))]), (eN dn), (eN bn), (Value.func (.func 63) #[] #[(ptr b42 0), (ptr b43 0), (ptr b44 0)]), (eN pre.length), (ptr L.bD ((((s.ask (s.eraseOk ((dn : Nat) : Int) ((bn : Nat) : Int))).setB dn bn { (s.ask (s.eraseOk ((dn : Nat) : Int) ((bn : Nat) : Int))).bl dn bn with er := IntKind.i64.wrap (((s.ask (s.eraseOk ((dn : Nat) : Int) ((bn : Nat) : Int))).bl dn bn).er + 1) }).goes).ix dn bn pre.length)), (Value.bool (((s.ask (s.eraseOk ((dn : Nat) : Int) ((bn : Nat) : Int))).setB dn bn { (s.ask (s.eraseOk ((dn : Nat) : Int) ((bn : Nat) : Int))).bl dn bn with er := IntKind.i64.wrap (((s.ask (s.eraseOk ((dn : Nat) : Int) ((bn : Nat) : Int))).bl dn bn).er + 1) }).goesR)), (ptr L.bD ((((s.ask (s.eraseOk ((dn : Nat) : Int) ((bn : Nat) : Int))).setB dn bn { (s.ask (s.eraseOk ((dn : Nat) : Int) ((bn : Nat) : Int))).bl dn bn with er := IntKind.i64.wrap (((s.ask (s.eraseOk ((dn : Nat) : Int) ((bn : Nat) : Int))).bl dn bn).er + 1) }).goes).ix dn bn pre.length)), (ptr L.bD ((((s.ask (s.eraseOk ((dn : Nat) : Int) ((bn : Nat) : Int))).setB dn bn { (s.ask (s.eraseOk ((dn : Nat) : Int) ((bn : Nat) : Int))).bl dn bn with er := IntKind.i64.wrap (((s.ask (s.eraseOk ((dn : Nat) : Int) ((bn : Nat) : Int))).bl dn bn).er + 1) }).goes).ix dn bn pre.length)), (ptr L.bD ((((s.ask (s.eraseOk ((dn : Nat) : Int) ((bn : Nat) : Int))).setB dn bn { (s.ask (s.eraseOk ((dn : Nat) : Int) ((bn : Nat) : Int))).bl dn bn with er := IntKind.i64.wrap (((s.ask (s.eraseOk ((dn : Nat) : Int) ((bn : Nat) : Int))).bl dn bn).er + 1) }).goes).ix dn bn pre.length)), (v55 3), (v55 4), (ptr L.bN 0), (ptr L.bN 0), (ptr L.bN 13), (v55 8), (v55 9)] ++ (us 15)) (by rw [e0, e1, e2, e5, e6, e7] <;> rfl) ?_
    clear e0 e1 e2 e5 e6 e7
    obtain ⟨xr_a13, xr_a38, xr_a50, xr_a48, xr_a49, xr_aD_, xr_aL_, xr_hN⟩ := hR
    replace a13 : Arr 27 nbx [(ptr L.bN 0)] w56 := xr_a13
    replace a38 : Arr 4 tb [(Value.bool (((s.ask (s.eraseOk ((dn : Nat) : Int) ((bn : Nat) : Int))).setB dn bn { (s.ask (s.eraseOk ((dn : Nat) : Int) ((bn : Nat) : Int))).bl dn bn with er := IntKind.i64.wrap (((s.ask (s.eraseOk ((dn : Nat) : Int) ((bn : Nat) : Int))).bl dn bn).er + 1) }).goesR))] w56 := xr_a38
    replace a50 : Arr 3 b44 [(eN bn)] w56 := xr_a50
    replace a48 : Arr 65 b42 [(eN ((((s.ask (s.eraseOk ((dn : Nat) : Int) ((bn : Nat) : Int))).setB dn bn { (s.ask (s.eraseOk ((dn : Nat) : Int) ((bn : Nat) : Int))).bl dn bn with er := IntKind.i64.wrap (((s.ask (s.eraseOk ((dn : Nat) : Int) ((bn : Nat) : Int))).bl dn bn).er + 1) }).goes).gD)), (eN ((((s.ask (s.eraseOk ((dn : Nat) : Int) ((bn : Nat) : Int))).setB dn bn { (s.ask (s.eraseOk ((dn : Nat) : Int) ((bn : Nat) : Int))).bl dn bn with er := IntKind.i64.wrap (((s.ask (s.eraseOk ((dn : Nat) : Int) ((bn : Nat) : Int))).bl dn bn).er + 1) }).goes).gB)), (eN ((((s.ask (s.eraseOk ((dn : Nat) : Int) ((bn : Nat) : Int))).setB dn bn { (s.ask (s.eraseOk ((dn : Nat) : Int) ((bn : Nat) : Int))).bl dn bn with er := IntKind.i64.wrap (((s.ask (s.eraseOk ((dn : Nat) : Int) ((bn : Nat) : Int))).bl dn bn).er + 1) }).goes).gP)), (sli L.bD 0 ((((s.ask (s.eraseOk ((dn : Nat) : Int) ((bn : Nat) : Int))).setB dn bn { (s.ask (s.eraseOk ((dn : Nat) : Int) ((bn : Nat) : Int))).bl dn bn with er := IntKind.i64.wrap (((s.ask (s.eraseOk ((dn : Nat) : Int) ((bn : Nat) : Int))).bl dn bn).er + 1) }).goes).n) ((((s.ask (s.eraseOk ((dn : Nat) : Int) ((bn : Nat) : Int))).setB dn bn { (s.ask (s.eraseOk ((dn : Nat) : Int) ((bn : Nat) : Int))).bl dn bn with er := IntKind.i64.wrap (((s.ask (s.eraseOk ((dn : Nat) : Int) ((bn : Nat) : Int))).bl dn bn).er + 1) }).goes).n))] w56 := xr_a48
    replace a49 : Arr 3 b43 [(eN dn)] w56 := xr_a49
    replace aD_ : Dead D_ w56 := xr_aD_
    replace aL_ : Dead L_ w56 := xr_aL_
    replace hN := xr_hN
    clear xr_a13 xr_a38 xr_a50 xr_a48 xr_a49 xr_aD_ xr_aL_ xr_hN
    replace oW := oW.tail o57 (tl_new g_oW_tb (tl_new g_oW_nbx (tl_sin (fun k h => h) tl_no)))
    replace o54 := o54.tail o57 (tl_in in1 (tl_in (in2 in1) (tl_sin (sub2 (sub2 sub1)) tl_no)))
    replace oR_ := oR_.tail o57 (tl_in (Or.inl in1) (tl_in (Or.inl (in2 in1)) (tl_sin (fun k h => Or.inl ((sub2 (sub2 sub1)) k h)) tl_no)))
    refine wI (d_nilCheck (b := L.bD) (o := ((((s.ask (s.eraseOk ((dn : Nat) : Int) ((bn : Nat) : Int))).setB dn bn { (s.ask (s.eraseOk ((dn : Nat) : Int) ((bn : Nat) : Int))).bl dn bn with er := IntKind.i64.wrap (((s.ask (s.eraseOk ((dn : Nat) : Int) ((bn : Nat) : Int))).bl dn bn).er + 1) }).goes).ix dn bn pre.length)) rfl) ?_
    refine wO (nd_stD (i := ((((s.ask (s.eraseOk ((dn : Nat) : Int) ((bn : Nat) : Int))).setB dn bn { (s.ask (s.eraseOk ((dn : Nat) : Int) ((bn : Nat) : Int))).bl dn bn with er := IntKind.i64.wrap (((s.ask (s.eraseOk ((dn : Nat) : Int) ((bn : Nat) : Int))).bl dn bn).er + 1) }).goes).ix dn bn pre.length)) (Y := (Or1 L_ (Or1 D_ (Or1 b44 (Or1 b43 (Or1 b42 (Or1 tb (Or1 nbx (Ors L.S X))))))))) (l := (mixR (((((s.ask (s.eraseOk ((dn : Nat) : Int) ((bn : Nat) : Int))).setB dn bn { (s.ask (s.eraseOk ((dn : Nat) : Int) ((bn : Nat) : Int))).bl dn bn with er := IntKind.i64.wrap (((s.ask (s.eraseOk ((dn : Nat) : Int) ((bn : Nat) : Int))).bl dn bn).er + 1) }).goes).eraseTo (((s.ask (s.eraseOk ((dn : Nat) : Int) ((bn : Nat) : Int))).setB dn bn { (s.ask (s.eraseOk ((dn : Nat) : Int) ((bn : Nat) : Int))).bl dn bn with er := IntKind.i64.wrap (((s.ask (s.eraseOk ((dn : Nat) : Int) ((bn : Nat) : Int))).bl dn bn).er + 1) }).goesR) dn bn pre.length).dl ((((s.ask (s.eraseOk ((dn : Nat) : Int) ((bn : Nat) : Int))).setB dn bn { (s.ask (s.eraseOk ((dn : Nat) : Int) ((bn : Nat) : Int))).bl dn bn with er := IntKind.i64.wrap (((s.ask (s.eraseOk ((dn : Nat) : Int) ((bn : Nat) : Int))).bl dn bn).er + 1) }).goes).ix dn bn pre.length)) onesW (((((s.ask (s.eraseOk ((dn : Nat) : Int) ((bn : Nat) : Int))).setB dn bn { (s.ask (s.eraseOk ((dn : Nat) : Int) ((bn : Nat) : Int))).bl dn bn with er := IntKind.i64.wrap (((s.ask (s.eraseOk ((dn : Nat) : Int) ((bn : Nat) : Int))).bl dn bn).er + 1) }).goes).eraseTo (((s.ask (s.eraseOk ((dn : Nat) : Int) ((bn : Nat) : Int))).setB dn bn { (s.ask (s.eraseOk ((dn : Nat) : Int) ((bn : Nat) : Int))).bl dn bn with er := IntKind.i64.wrap (((s.ask (s.eraseOk ((dn : Nat) : Int) ((bn : Nat) : Int))).bl dn bn).er + 1) }).goesR) dn bn pre.length).mask))) hN (ox_or1 (ox_or1 (ox_or1 (ox_or1 (ox_or1 (ox_or1 (ox_or1 ox_s))))))) s_ti36 rfl rfl (f_v55_9.less (Y := (Or1 L_ (Or1 D_ (Or1 b44 (Or1 b43 (Or1 b42 (Or1 tb (Or1 nbx (Ors L.S X))))))))) (xx_or1 (xx_or1 (xx_or1 (xx_or1 (xx_or1 (xx_or1 (xx_or1 (xx_ors (lt_old hX)))))))))) (NS.ix_lt (by first | assumption | omega) (by first | assumption | omega) (by first | assumption | omega)) (mixR60 l1_ onesW_len)) ?_
    rintro _ w58 ⟨a59, o60⟩
    replace a13 := a13.step o60 (hN.dis _ (in2 (in2 (in2 (in2 (in2 (in2 in1)))))))
    replace a38 := a38.step o60 (hN.dis _ (in2 (in2 (in2 (in2 (in2 in1))))))
    replace a50 := a50.step o60 (hN.dis _ (in2 (in2 in1)))
    replace a48 := a48.step o60 (hN.dis _ (in2 (in2 (in2 (in2 in1)))))
    replace a49 := a49.step o60 (hN.dis _ (in2 (in2 (in2 in1))))
    replace aD_ := aD_.step o60 (hN.dis _ (in2 in1))
    replace aL_ := aL_.step o60 (hN.dis _ in1)
    replace f_v55_3 := f_v55_3.step o60 (sub2 (sub2 (sub2 (sub2 (sub2 (sub2 (sub2 sub1)))))))
    replace f_v55_4 := f_v55_4.step o60 (sub2 (sub2 (sub2 (sub2 (sub2 (sub2 (sub2 sub1)))))))
    replace f_v55_8 := f_v55_8.step o60 (sub2 (sub2 (sub2 (sub2 (sub2 (sub2 (sub2 sub1)))))))
    replace f_v55_9 := f_v55_9.step o60 (sub2 (sub2 (sub2 (sub2 (sub2 (sub2 (sub2 sub1)))))))
    replace oW := oW.tail o60 (fun k _ e => (fun k h => h) k e)
    replace o54 := o54.tail o60 (fun k _ e => (sub2 (sub2 sub1)) k e)
    replace oR_ := oR_.tail o60 (fun k _ e => (fun k h => Or.inl ((sub2 (sub2 sub1)) k h)) k e)
    replace hN := a59
    refine wF ([(ptr L.bN 0), (eN dn), (eN bn), (ptr nbx 0), undef, undef, (eN 0), (eN (s.askR (s.eraseOk ((dn : Nat) : Int) ((bn : Nat) : Int)))), (ptr tb 0), undef, (ptr L.bD ((((s.ask (s.eraseOk ((dn : Nat) : Int) ((bn : Nat) : Int))).setB dn bn { (s.ask (s.eraseOk ((dn : Nat) : Int) ((bn : Nat) : Int))).bl dn bn with er := IntKind.i64.wrap (((s.ask (s.eraseOk ((dn : Nat) : Int) ((bn : Nat) : Int))).bl dn bn).er + 1) }).goes).ix dn bn pre.length)), (ptr L.bN 0), (ptr L.bN 0), (eN dn), (eN bn), (Value.bool true), (Value.bool true), (ptr L.bN 0), (eN dn), (eN bn), (Value.bool false), (Value.bool true), (Value.bool true), (eN (s.askR (s.eraseOk ((dn : Nat) : Int) ((bn : Nat) : Int)))), (eN (s.askR (s.eraseOk ((dn : Nat) : Int) ((bn : Nat) : Int)))), (Value.bool (!decide ((s.askR (s.eraseOk ((dn : Nat) : Int) ((bn : Nat) : Int))) = 0))), undef, (ptr L.bN 0), (ptr L.bN 0), (ptr L.bN 11), L.ub, (eN dn), (ixp L.ub dn), (sli (L.bk.getD dn 0) 0 ((s.ask (s.eraseOk ((dn : Nat) : Int) ((bn : Nat) : Int))).gB) ((s.ask (s.eraseOk ((dn : Nat) : Int) ((bn : Nat) : Int))).gB)), (eN bn), (ptr (L.bk.getD dn 0) (bn * 3)), (ptr (L.bk.getD dn 0) (bn * 3 + 1)), (eI (((s.ask (s.eraseOk ((dn : Nat) : Int) ((bn : Nat) : Int))).bl dn bn).er)), (eI (IntKind.i64.wrap (((s.ask (s.eraseOk ((dn : Nat) : Int) ((bn : Nat) : Int))).bl dn bn).er + 1))), (ptr (L.bk.getD dn 0) (bn * 3)), (ptr (L.bk.getD dn 0) (bn * 3 + 1)), (ptr L.bN 0), (Value.bool (((s.ask (s.eraseOk ((dn : Nat) : Int) ((bn : Nat) : Int))).setB dn bn { (s.ask (s.eraseOk ((dn : Nat) : Int) ((bn : Nat) : Int))).bl dn bn with er := IntKind.i64.wrap (((s.ask (s.eraseOk ((dn : Nat) : Int) ((bn : Nat) : Int))).bl dn bn).er + 1) }).goesR)), (ptr L.bN 0), (ptr L.bN 0), (ptr L.bN 3), (Value.agg #[(eN ((((s.ask (s.eraseOk ((dn : Nat) : Int) ((bn : Nat) : Int))).setB dn bn { (s.ask (s.eraseOk ((dn : Nat) : Int) ((bn : Nat) : Int))).bl dn bn with er := IntKind.i64.wrap (((s.ask (s.eraseOk ((dn : Nat) : Int) ((bn : Nat) : Int))).bl dn bn).er + 1) }).goes).gD)), (eN ((((s.ask (s.eraseOk ((dn : Nat) : Int) ((bn : Nat) : Int))).setB dn bn { (s.ask (s.eraseOk ((dn : Nat) : Int) ((bn : Nat) : Int))).bl dn bn with er := IntKind.i64.wrap (((s.ask (s.eraseOk ((dn : Nat) : Int) ((bn : Nat) : Int))).bl dn bn).er + 1) }).goes).gB)), (eN ((((s.ask (s.eraseOk ((dn : Nat) : Int) ((bn : Nat) : Int))).setB dn bn { (s.ask (s.eraseOk ((dn : Nat) : Int) ((bn : Nat) : Int))).bl dn bn with er := IntKind.i64.wrap (((s.ask (s.eraseOk ((dn : Nat) : Int) ((bn : Nat) : Int))).bl dn bn).er + 1) }).goes).gP)), (sli L.bD 0 ((((s.ask (s.eraseOk ((dn : Nat) : Int) ((bn : Nat) : Int))).setB dn bn { (s.ask (s.eraseOk ((dn : Nat) : Int) ((bn : Nat) : Int))).bl dn bn with er := IntKind.i64.wrap (((s.ask (s.eraseOk ((dn : Nat) : Int) ((bn : Nat) : Int))).bl dn bn).er + 1) }).goes).n) ((((s.ask (s.eraseOk ((dn : Nat) : Int) ((bn : Nat) : Int))).setB dn bn { (s.ask (s.eraseOk ((dn : Nat) : Int) ((bn : Nat) : Int))).bl dn bn with er := IntKind.i64.wrap (((s.ask (s.eraseOk ((dn : Nat) : Int) ((bn : Nat) : Int))).bl dn bn).er + 1) }).goes).n))]), (eN dn), (eN bn), (Value.func (.func 63) #[] #[(ptr b42 0), (ptr b43 0), (ptr b44 0)]), (eN pre.length), (ptr L.bD ((((s.ask (s.eraseOk ((dn : Nat) : Int) ((bn : Nat) : Int))).setB dn bn { (s.ask (s.eraseOk ((dn : Nat) : Int) ((bn : Nat) : Int))).bl dn bn with er := IntKind.i64.wrap (((s.ask (s.eraseOk ((dn : Nat) : Int) ((bn : Nat) : Int))).bl dn bn).er + 1) }).goes).ix dn bn pre.length)), (Value.bool (((s.ask (s.eraseOk ((dn : Nat) : Int) ((bn : Nat) : Int))).setB dn bn { (s.ask (s.eraseOk ((dn : Nat) : Int) ((bn : Nat) : Int))).bl dn bn with er := IntKind.i64.wrap (((s.ask (s.eraseOk ((dn : Nat) : Int) ((bn : Nat) : Int))).bl dn bn).er + 1) }).goesR)), (ptr L.bD ((((s.ask (s.eraseOk ((dn : Nat) : Int) ((bn : Nat) : Int))).setB dn bn { (s.ask (s.eraseOk ((dn : Nat) : Int) ((bn : Nat) : Int))).bl dn bn with er := IntKind.i64.wrap (((s.ask (s.eraseOk ((dn : Nat) : Int) ((bn : Nat) : Int))).bl dn bn).er + 1) }).goes).ix dn bn pre.length)), (ptr L.bD ((((s.ask (s.eraseOk ((dn : Nat) : Int) ((bn : Nat) : Int))).setB dn bn { (s.ask (s.eraseOk ((dn : Nat) : Int) ((bn : Nat) : Int))).bl dn bn with er := IntKind.i64.wrap (((s.ask (s.eraseOk ((dn : Nat) : Int) ((bn : Nat) : Int))).bl dn bn).er + 1) }).goes).ix dn bn pre.length)), (ptr L.bD ((((s.ask (s.eraseOk ((dn : Nat) : Int) ((bn : Nat) : Int))).setB dn bn { (s.ask (s.eraseOk ((dn : Nat) : Int) ((bn : Nat) : Int))).bl dn bn with er := IntKind.i64.wrap (((s.ask (s.eraseOk ((dn : Nat) : Int) ((bn : Nat) : Int))).bl dn bn).er + 1) }).goes).ix dn bn pre.length)), (v55 3), (v55 4), (ptr L.bN 0), (ptr L.bN 0), (ptr L.bN 13), (v55 8), (v55 9), (ptr L.bD ((((s.ask (s.eraseOk ((dn : Nat) : Int) ((bn : Nat) : Int))).setB dn bn { (s.ask (s.eraseOk ((dn : Nat) : Int) ((bn : Nat) : Int))).bl dn bn with er := IntKind.i64.wrap (((s.ask (s.eraseOk ((dn : Nat) : Int) ((bn : Nat) : Int))).bl dn bn).er + 1) }).goes).ix dn bn pre.length))] ++ (us 14)) ?_
    refine wpL.done ?_
    refine inb_n ?_
    refine ⟨oR_, ?_, ?_, ?_, ?_, ?_, ?_, ?_⟩
    ·
     exact o54
    ·
     exact a13
    ·
     exact a38
    ·
     exact a50
    ·
     exact a48
    ·
     exact a49
    ·
     (try dsimp only)
     all_goals (exact (by rw [List.length_append, List.length_singleton]; exact nd_to (hN.less (xx_or1 (xx_or1 (xx_or1 (xx_or1 (xx_or1 (xx_or1 (xx_or1 xx_id)))))))) (NS.eraseTo_next _ _ _ _ _ ((if_pos c1).trans (congrArg (fun x_ => mixR x_ onesW _) (NS.eraseTo_dl _ _ _ _ _).symm)))))
   refine plain ?_
   refine wI (d_move rfl) ?_
   refine wO (d_call (xl := []) (al := []) Try.func39 (by kernel_rfl) rfl rfl rfl (blank_ok _)) ?_
   rintro u63 w61 f64
   replace f64 := f64.ps
   obtain ⟨f64, o62⟩ := f64
   replace f64 := f64.less (Y := (Or1 L_ (Or1 D_ (Or1 b44 (Or1 b43 (Or1 b42 (Or1 tb (Or1 nbx (Ors L.S (Old W.heap.size)))))))))) (or1_old aL_.lt (or1_old aD_.lt (or1_old a50.lt (or1_old a49.lt (or1_old a48.lt (or1_old a38.lt (or1_old a13.lt (ors_old hN.lt (old_old oW.size)))))))))
   replace hN := hN.step0 o62
   replace a13 := a13.step0 o62
   replace a38 := a38.step0 o62
   replace a50 := a50.step0 o62
   replace a48 := a48.step0 o62
   replace a49 := a49.step0 o62
   replace aD_ := aD_.step0 o62
   replace aL_ := aL_.step0 o62
   replace oW := oW.tail0 o62
   replace o54 := o54.tail0 o62
   replace oR_ := oR_.tail0 o62
   refine wI (d_nilCheck (b := L.bD) (o := ((((s.ask (s.eraseOk ((dn : Nat) : Int) ((bn : Nat) : Int))).setB dn bn { (s.ask (s.eraseOk ((dn : Nat) : Int) ((bn : Nat) : Int))).bl dn bn with er := IntKind.i64.wrap (((s.ask (s.eraseOk ((dn : Nat) : Int) ((bn : Nat) : Int))).bl dn bn).er + 1) }).goes).ix dn bn pre.length)) rfl) ?_
   refine wF ([(ptr L.bN 0), (eN dn), (eN bn), (ptr nbx 0), undef, undef, (eN 0), (eN (s.askR (s.eraseOk ((dn : Nat) : Int) ((bn : Nat) : Int)))), (ptr tb 0), undef, (ptr L.bD ((((s.ask (s.eraseOk ((dn : Nat) : Int) ((bn : Nat) : Int))).setB dn bn { (s.ask (s.eraseOk ((dn : Nat) : Int) ((bn : Nat) : Int))).bl dn bn with er := IntKind.i64.wrap (((s.ask (s.eraseOk ((dn : Nat) : Int) ((bn : Nat) : Int))).bl dn bn).er + 1) }).goes).ix dn bn pre.length)), (ptr L.bN 0), (ptr L.bN 0), (eN dn), (eN bn), (Value.bool true), (Value.bool true), (ptr L.bN 0), (eN dn), (eN bn), (Value.bool false), (Value.bool true), (Value.bool true), (eN (s.askR (s.eraseOk ((dn : Nat) : Int) ((bn : Nat) : Int)))), (eN (s.askR (s.eraseOk ((dn : Nat) : Int) ((bn : Nat) : Int)))), (Value.bool (!decide ((s.askR (s.eraseOk ((dn : Nat) : Int) ((bn : Nat) : Int))) = 0))), undef, (ptr L.bN 0), (ptr L.bN 0), (ptr L.bN 11), L.ub, (eN dn), (ixp L.ub dn), (sli (L.bk.getD dn 0) 0 ((s.ask (s.eraseOk ((dn : Nat) : Int) ((bn : Nat) : Int))).gB) ((s.ask (s.eraseOk ((dn : Nat) : Int) ((bn : Nat) : Int))).gB)), (eN bn), (ptr (L.bk.getD dn 0) (bn * 3)), (ptr (L.bk.getD dn 0) (bn * 3 + 1)), (eI (((s.ask (s.eraseOk ((dn : Nat) : Int) ((bn : Nat) : Int))).bl dn bn).er)), (eI (IntKind.i64.wrap (((s.ask (s.eraseOk ((dn : Nat) : Int) ((bn : Nat) : Int))).bl dn bn).er + 1))), (ptr (L.bk.getD dn 0) (bn * 3)), (ptr (L.bk.getD dn 0) (bn * 3 + 1)), (ptr L.bN 0), (Value.bool (((s.ask (s.eraseOk ((dn : Nat) : Int) ((bn : Nat) : Int))).setB dn bn { (s.ask (s.eraseOk ((dn : Nat) : Int) ((bn : Nat) : Int))).bl dn bn with er := IntKind.i64.wrap (((s.ask (s.eraseOk ((dn : Nat) : Int) ((bn : Nat) : Int))).bl dn bn).er + 1) }).goesR)), (ptr L.bN 0), (ptr L.bN 0), (ptr L.bN 3), (Value.agg #[(eN ((((s.ask (s.eraseOk ((dn : Nat) : Int) ((bn : Nat) : Int))).setB dn bn { (s.ask (s.eraseOk ((dn : Nat) : Int) ((bn : Nat) : Int))).bl dn bn with er := IntKind.i64.wrap (((s.ask (s.eraseOk ((dn : Nat) : Int) ((bn : Nat) : Int))).bl dn bn).er + 1) }).goes).gD)), (eN ((((s.ask (s.eraseOk ((dn : Nat) : Int) ((bn : Nat) : Int))).setB dn bn { (s.ask (s.eraseOk ((dn : Nat) : Int) ((bn : Nat) : Int))).bl dn bn with er := IntKind.i64.wrap (((s.ask (s.eraseOk ((dn : Nat) : Int) ((bn : Nat) : Int))).bl dn bn).er + 1) }).goes).gB)), (eN ((((s.ask (s.eraseOk ((dn : Nat) : Int) ((bn : Nat) : Int))).setB dn bn { (s.ask (s.eraseOk ((dn : Nat) : Int) ((bn : Nat) : Int))).bl dn bn with er := IntKind.i64.wrap (((s.ask (s.eraseOk ((dn : Nat) : Int) ((bn : Nat) : Int))).bl dn bn).er + 1) }).goes).gP)), (sli L.bD 0 ((((s.ask (s.eraseOk ((dn : Nat) : Int) ((bn : Nat) : Int))).setB dn bn { (s.ask (s.eraseOk ((dn : Nat) : Int) ((bn : Nat) : Int))).bl dn bn with er := IntKind.i64.wrap (((s.ask (s.eraseOk ((dn : Nat) : Int) ((bn : Nat) : Int))).bl dn bn).er + 1) }).goes).n) ((((s.ask (s.eraseOk ((dn : Nat) : Int) ((bn : Nat) : Int))).setB dn bn { (s.ask (s.eraseOk ((dn : Nat) : Int) ((bn : Nat) : Int))).bl dn bn with er := IntKind.i64.wrap (((s.ask (s.eraseOk ((dn : Nat) : Int) ((bn : Nat) : Int))).bl dn bn).er + 1) }).goes).n))]), (eN dn), (eN bn), (Value.func (.func 63) #[] #[(ptr b42 0), (ptr b43 0), (ptr b44 0)]), (eN pre.length), (ptr L.bD ((((s.ask (s.eraseOk ((dn : Nat) : Int) ((bn : Nat) : Int))).setB dn bn { (s.ask (s.eraseOk ((dn : Nat) : Int) ((bn : Nat) : Int))).bl dn bn with er := IntKind.i64.wrap (((s.ask (s.eraseOk ((dn : Nat) : Int) ((bn : Nat) : Int))).bl dn bn).er + 1) }).goes).ix dn bn pre.length)), (Value.bool (((s.ask (s.eraseOk ((dn : Nat) : Int) ((bn : Nat) : Int))).setB dn bn { (s.ask (s.eraseOk ((dn : Nat) : Int) ((bn : Nat) : Int))).bl dn bn with er := IntKind.i64.wrap (((s.ask (s.eraseOk ((dn : Nat) : Int) ((bn : Nat) : Int))).bl dn bn).er + 1) }).goesR))] ++ (us 11 ++ [(ptr L.bD ((((s.ask (s.eraseOk ((dn : Nat) : Int) ((bn : Nat) : Int))).setB dn bn { (s.ask (s.eraseOk ((dn : Nat) : Int) ((bn : Nat) : Int))).bl dn bn with er := IntKind.i64.wrap (((s.ask (s.eraseOk ((dn : Nat) : Int) ((bn : Nat) : Int))).bl dn bn).er + 1) }).goes).ix dn bn pre.length)), u63, (ptr L.bD ((((s.ask (s.eraseOk ((dn : Nat) : Int) ((bn : Nat) : Int))).setB dn bn { (s.ask (s.eraseOk ((dn : Nat) : Int) ((bn : Nat) : Int))).bl dn bn with er := IntKind.i64.wrap (((s.ask (s.eraseOk ((dn : Nat) : Int) ((bn : Nat) : Int))).bl dn bn).er + 1) }).goes).ix dn bn pre.length))] ++ (us 11))) ?_
   refine wO (nd_stD (i := ((((s.ask (s.eraseOk ((dn : Nat) : Int) ((bn : Nat) : Int))).setB dn bn { (s.ask (s.eraseOk ((dn : Nat) : Int) ((bn : Nat) : Int))).bl dn bn with er := IntKind.i64.wrap (((s.ask (s.eraseOk ((dn : Nat) : Int) ((bn : Nat) : Int))).bl dn bn).er + 1) }).goes).ix dn bn pre.length)) (Y := (Or1 L_ (Or1 D_ (Or1 b44 (Or1 b43 (Or1 b42 (Or1 tb (Or1 nbx (Ors L.S X))))))))) (l := onesW) hN (ox_or1 (ox_or1 (ox_or1 (ox_or1 (ox_or1 (ox_or1 (ox_or1 ox_s))))))) s_ti36 rfl rfl (f64.less (Y := (Or1 L_ (Or1 D_ (Or1 b44 (Or1 b43 (Or1 b42 (Or1 tb (Or1 nbx (Ors L.S X))))))))) (xx_or1 (xx_or1 (xx_or1 (xx_or1 (xx_or1 (xx_or1 (xx_or1 (xx_ors (lt_old hX)))))))))) (NS.ix_lt (by first | assumption | omega) (by first | assumption | omega) (by first | assumption | omega)) onesW_len) ?_
   rintro _ w65 ⟨a66, o67⟩
   replace a13 := a13.step o67 (hN.dis _ (in2 (in2 (in2 (in2 (in2 (in2 in1)))))))
   replace a38 := a38.step o67 (hN.dis _ (in2 (in2 (in2 (in2 (in2 in1))))))
   replace a50 := a50.step o67 (hN.dis _ (in2 (in2 in1)))
   replace a48 := a48.step o67 (hN.dis _ (in2 (in2 (in2 (in2 in1)))))
   replace a49 := a49.step o67 (hN.dis _ (in2 (in2 (in2 in1))))
   replace aD_ := aD_.step o67 (hN.dis _ (in2 in1))
   replace aL_ := aL_.step o67 (hN.dis _ in1)
   replace f64 := f64.step o67 (sub2 (sub2 (sub2 (sub2 (sub2 (sub2 (sub2 sub1)))))))
   replace oW := oW.tail o67 (fun k _ e => (fun k h => h) k e)
   replace o54 := o54.tail o67 (fun k _ e => (sub2 (sub2 sub1)) k e)
   replace oR_ := oR_.tail o67 (fun k _ e => (fun k h => Or.inl ((sub2 (sub2 sub1)) k h)) k e)
   replace hN := a66
   refine wF ([(ptr L.bN 0), (eN dn), (eN bn), (ptr nbx 0), undef, undef, (eN 0), (eN (s.askR (s.eraseOk ((dn : Nat) : Int) ((bn : Nat) : Int)))), (ptr tb 0), undef, (ptr L.bD ((((s.ask (s.eraseOk ((dn : Nat) : Int) ((bn : Nat) : Int))).setB dn bn { (s.ask (s.eraseOk ((dn : Nat) : Int) ((bn : Nat) : Int))).bl dn bn with er := IntKind.i64.wrap (((s.ask (s.eraseOk ((dn : Nat) : Int) ((bn : Nat) : Int))).bl dn bn).er + 1) }).goes).ix dn bn pre.length)), (ptr L.bN 0), (ptr L.bN 0), (eN dn), (eN bn), (Value.bool true), (Value.bool true), (ptr L.bN 0), (eN dn), (eN bn), (Value.bool false), (Value.bool true), (Value.bool true), (eN (s.askR (s.eraseOk ((dn : Nat) : Int) ((bn : Nat) : Int)))), (eN (s.askR (s.eraseOk ((dn : Nat) : Int) ((bn : Nat) : Int)))), (Value.bool (!decide ((s.askR (s.eraseOk ((dn : Nat) : Int) ((bn : Nat) : Int))) = 0))), undef, (ptr L.bN 0), (ptr L.bN 0), (ptr L.bN 11), L.ub, (eN dn), (ixp L.ub dn), (sli (L.bk.getD dn 0) 0 ((s.ask (s.eraseOk ((dn : Nat) : Int) ((bn : Nat) : Int))).gB) ((s.ask (s.eraseOk ((dn : Nat) : Int) ((bn : Nat) : Int))).gB)), (eN bn), (ptr (L.bk.getD dn 0) (bn * 3)), (ptr (L.bk.getD dn 0) (bn * 3 + 1)), (eI (((s.ask (s.eraseOk ((dn : Nat) : Int) ((bn : Nat) : Int))).bl dn bn).er)), (eI (IntKind.i64.wrap (((s.ask (s.eraseOk ((dn : Nat) : Int) ((bn : Nat) : Int))).bl dn bn).er + 1))), (ptr (L.bk.getD dn 0) (bn * 3)), (ptr (L.bk.getD dn 0) (bn * 3 + 1)), (ptr L.bN 0), (Value.bool (((s.ask (s.eraseOk ((dn : Nat) : Int) ((bn : Nat) : Int))).setB dn bn { (s.ask (s.eraseOk ((dn : Nat) : Int) ((bn : Nat) : Int))).bl dn bn with er := IntKind.i64.wrap (((s.ask (s.eraseOk ((dn : Nat) : Int) ((bn : Nat) : Int))).bl dn bn).er + 1) }).goesR)), (ptr L.bN 0), (ptr L.bN 0), (ptr L.bN 3), (Value.agg #[(eN ((((s.ask (s.eraseOk ((dn : Nat) : Int) ((bn : Nat) : Int))).setB dn bn { (s.ask (s.eraseOk ((dn : Nat) : Int) ((bn : Nat) : Int))).bl dn bn with er := IntKind.i64.wrap (((s.ask (s.eraseOk ((dn : Nat) : Int) ((bn : Nat) : Int))).bl dn bn).er + 1) }).goes).gD)), (eN ((((s.ask (s.eraseOk ((dn : Nat) : Int) ((bn : Nat) : Int))).setB dn bn { (s.ask (s.eraseOk ((dn : Nat) : Int) ((bn : Nat) : Int))).bl dn bn with er := IntKind.i64.wrap (((s.ask (s.eraseOk ((dn : Nat) : Int) ((bn : Nat) : Int))).bl dn bn).er + 1) }).goes).gB)), (eN ((((s.ask (s.eraseOk ((dn : Nat) : Int) ((bn : Nat) : Int))).setB dn bn { (s.ask (s.eraseOk ((dn : Nat) : Int) ((bn : Nat) : Int))).bl dn bn with er := IntKind.i64.wrap (((s.ask (s.eraseOk ((dn : Nat) : Int) ((bn : Nat) : Int))).bl dn bn).er + 1) }).goes).gP)), (sli L.bD 0 ((((s.ask (s.eraseOk ((dn : Nat) : Int) ((bn : Nat) : Int))).setB dn bn { (s.ask (s.eraseOk ((dn : Nat) : Int) ((bn : Nat) : Int))).bl dn bn with er := IntKind.i64.wrap (((s.ask (s.eraseOk ((dn : Nat) : Int) ((bn : Nat) : Int))).bl dn bn).er + 1) }).goes).n) ((((s.ask (s.eraseOk ((dn : Nat) : Int) ((bn : Nat) : Int))).setB dn bn { (s.ask (s.eraseOk ((dn : Nat) : Int) ((bn : Nat) : Int))).bl dn bn with er := IntKind.i64.wrap (((s.ask (s.eraseOk ((dn : Nat) : Int) ((bn : Nat) : Int))).bl dn bn).er + 1) }).goes).n))]), (eN dn), (eN bn), (Value.func (.func 63) #[] #[(ptr b42 0), (ptr b43 0), (ptr b44 0)]), (eN pre.length), (ptr L.bD ((((s.ask (s.eraseOk ((dn : Nat) : Int) ((bn : Nat) : Int))).setB dn bn { (s.ask (s.eraseOk ((dn : Nat) : Int) ((bn : Nat) : Int))).bl dn bn with er := IntKind.i64.wrap (((s.ask (s.eraseOk ((dn : Nat) : Int) ((bn : Nat) : Int))).bl dn bn).er + 1) }).goes).ix dn bn pre.length)), (Value.bool (((s.ask (s.eraseOk ((dn : Nat) : Int) ((bn : Nat) : Int))).setB dn bn { (s.ask (s.eraseOk ((dn : Nat) : Int) ((bn : Nat) : Int))).bl dn bn with er := IntKind.i64.wrap (((s.ask (s.eraseOk ((dn : Nat) : Int) ((bn : Nat) : Int))).bl dn bn).er + 1) }).goesR))] ++ (us 11 ++ [(ptr L.bD ((((s.ask (s.eraseOk ((dn : Nat) : Int) ((bn : Nat) : Int))).setB dn bn { (s.ask (s.eraseOk ((dn : Nat) : Int) ((bn : Nat) : Int))).bl dn bn with er := IntKind.i64.wrap (((s.ask (s.eraseOk ((dn : Nat) : Int) ((bn : Nat) : Int))).bl dn bn).er + 1) }).goes).ix dn bn pre.length)), u63, (ptr L.bD ((((s.ask (s.eraseOk ((dn : Nat) : Int) ((bn : Nat) : Int))).setB dn bn { (s.ask (s.eraseOk ((dn : Nat) : Int) ((bn : Nat) : Int))).bl dn bn with er := IntKind.i64.wrap (((s.ask (s.eraseOk ((dn : Nat) : Int) ((bn : Nat) : Int))).bl dn bn).er + 1) }).goes).ix dn bn pre.length))] ++ (us 11))) ?_
   refine wpL.done ?_
   refine inb_n ?_
   refine ⟨oR_, ?_, ?_, ?_, ?_, ?_, ?_, ?_⟩
   ·
    exact o54
   ·
    exact a13
   ·
    exact a38
   ·
    exact a50
   ·
    exact a48
   ·
    exact a49
   ·
    (try dsimp only)
    all_goals (exact (by rw [List.length_append, List.length_singleton]; exact nd_to (hN.less (xx_or1 (xx_or1 (xx_or1 (xx_or1 (xx_or1 (xx_or1 (xx_or1 xx_id)))))))) (NS.eraseTo_next _ _ _ _ _ (if_neg (fun e_ => by rw [c1] at e_; cases e_)))))
  ·
   intro w1_ hI_ aD_
   obtain ⟨o54, a13, a38, a50, a48, a49, hN⟩ := hI_
   replace hN := hN.less (Y := (Or1 D_ (Or1 b44 (Or1 b43 (Or1 b42 (Or1 tb (Or1 nbx X))))))) (xx_skip xx_id)
   replace oW := oW.tail o54 (tl_new g_oW_tb (tl_new g_oW_nbx (tl_sin (fun k h => h) tl_no)))
   have n_nbx_D_ : nbx ≠ D_ := by omega
   have n_tb_D_ : tb ≠ D_ := by omega
   have n_b44_D_ : b44 ≠ D_ := by omega
   have n_b42_D_ : b42 ≠ D_ := by omega
   have n_b43_D_ : b43 ≠ D_ := by omega
   have g_oW_D_ : W.heap.size ≤ D_ := by omega
   have g_o54_D_ : w40.heap.size ≤ D_ := by omega
   replace hN := nd_to hN (show _ = (s.eraseA ((dn : Nat) : Int) ((bn : Nat) : Int)).eraseTo s.goesR dn bn s.gP from by rw [List.length_range]; rfl)
   refine inb_n (then_n ?_)
   refine wpIn_seq ?_
   refine wpIn_seq ?_
   refine plain ?_
   refine wI (d_load (v := (Value.bool (((s.ask (s.eraseOk ((dn : Nat) : Int) ((bn : Nat) : Int))).setB dn bn { (s.ask (s.eraseOk ((dn : Nat) : Int) ((bn : Nat) : Int))).bl dn bn with er := IntKind.i64.wrap (((s.ask (s.eraseOk ((dn : Nat) : Int) ((bn : Nat) : Int))).bl dn bn).er + 1) }).goesR))) ⟨_, Try.underlying4, rfl⟩ rfl a38 rfl) ?_
   refine wF ([(ptr L.bN 0), (eN dn), (eN bn), (ptr nbx 0), undef, undef, (eN 0), (eN (s.askR (s.eraseOk ((dn : Nat) : Int) ((bn : Nat) : Int)))), (ptr tb 0), undef, undef, (ptr L.bN 0), (ptr L.bN 0), (eN dn), (eN bn), (Value.bool true), (Value.bool true), (ptr L.bN 0), (eN dn), (eN bn), (Value.bool false), (Value.bool true), (Value.bool true), (eN (s.askR (s.eraseOk ((dn : Nat) : Int) ((bn : Nat) : Int)))), (eN (s.askR (s.eraseOk ((dn : Nat) : Int) ((bn : Nat) : Int)))), (Value.bool (!decide ((s.askR (s.eraseOk ((dn : Nat) : Int) ((bn : Nat) : Int))) = 0))), undef, (ptr L.bN 0), (ptr L.bN 0), (ptr L.bN 11), L.ub, (eN dn), (ixp L.ub dn), (sli (L.bk.getD dn 0) 0 ((s.ask (s.eraseOk ((dn : Nat) : Int) ((bn : Nat) : Int))).gB) ((s.ask (s.eraseOk ((dn : Nat) : Int) ((bn : Nat) : Int))).gB)), (eN bn), (ptr (L.bk.getD dn 0) (bn * 3)), (ptr (L.bk.getD dn 0) (bn * 3 + 1)), (eI (((s.ask (s.eraseOk ((dn : Nat) : Int) ((bn : Nat) : Int))).bl dn bn).er)), (eI (IntKind.i64.wrap (((s.ask (s.eraseOk ((dn : Nat) : Int) ((bn : Nat) : Int))).bl dn bn).er + 1))), (ptr (L.bk.getD dn 0) (bn * 3)), (ptr (L.bk.getD dn 0) (bn * 3 + 1)), (ptr L.bN 0), (Value.bool (((s.ask (s.eraseOk ((dn : Nat) : Int) ((bn : Nat) : Int))).setB dn bn { (s.ask (s.eraseOk ((dn : Nat) : Int) ((bn : Nat) : Int))).bl dn bn with er := IntKind.i64.wrap (((s.ask (s.eraseOk ((dn : Nat) : Int) ((bn : Nat) : Int))).bl dn bn).er + 1) }).goesR)), (ptr L.bN 0), (ptr L.bN 0), (ptr L.bN 3), (Value.agg #[(eN ((((s.ask (s.eraseOk ((dn : Nat) : Int) ((bn : Nat) : Int))).setB dn bn { (s.ask (s.eraseOk ((dn : Nat) : Int) ((bn : Nat) : Int))).bl dn bn with er := IntKind.i64.wrap (((s.ask (s.eraseOk ((dn : Nat) : Int) ((bn : Nat) : Int))).bl dn bn).er + 1) }).goes).gD)), (eN ((((s.ask (s.eraseOk ((dn : Nat) : Int) ((bn : Nat) : Int))).setB dn bn { (s.ask (s.eraseOk ((dn : Nat) : Int) ((bn : Nat) : Int))).bl dn bn with er := IntKind.i64.wrap (((s.ask (s.eraseOk ((dn : Nat) : Int) ((bn : Nat) : Int))).bl dn bn).er + 1) }).goes).gB)), (eN ((((s.ask (s.eraseOk ((dn : Nat) : Int) ((bn : Nat) : Int))).setB dn bn { (s.ask (s.eraseOk ((dn : Nat) : Int) ((bn : Nat) : Int))).bl dn bn with er := IntKind.i64.wrap (((s.ask (s.eraseOk ((dn : Nat) : Int) ((bn : Nat) : Int))).bl dn bn).er + 1) }).goes).gP)), (sli L.bD 0 ((((s.ask (s.eraseOk ((dn : Nat) : Int) ((bn : Nat) : Int))).setB dn bn { (s.ask (s.eraseOk ((dn : Nat) : Int) ((bn : Nat) : Int))).bl dn bn with er := IntKind.i64.wrap (((s.ask (s.eraseOk ((dn : Nat) : Int) ((bn : Nat) : Int))).bl dn bn).er + 1) }).goes).n) ((((s.ask (s.eraseOk ((dn : Nat) : Int) ((bn : Nat) : Int))).setB dn bn { (s.ask (s.eraseOk ((dn : Nat) : Int) ((bn : Nat) : Int))).bl dn bn with er := IntKind.i64.wrap (((s.ask (s.eraseOk ((dn : Nat) : Int) ((bn : Nat) : Int))).bl dn bn).er + 1) }).goes).n))]), (eN dn), (eN bn), (Value.func (.func 63) #[] #[(ptr b42 0), (ptr b43 0), (ptr b44 0)])] ++ (us 17 ++ [(Value.bool (((s.ask (s.eraseOk ((dn : Nat) : Int) ((bn : Nat) : Int))).setB dn bn { (s.ask (s.eraseOk ((dn : Nat) : Int) ((bn : Nat) : Int))).bl dn bn with er := IntKind.i64.wrap (((s.ask (s.eraseOk ((dn : Nat) : Int) ((bn : Nat) : Int))).bl dn bn).er + 1) }).goesR))] ++ (us 10))) ?_
   refine wpL.done ?_
   refine then_n ?_
   refine cond_b rfl (fun c1 => ?_) (fun c1 => ?_)
   ·
    refine wpIn_seq ?_
    refine plain ?_
    refine wI (d_assign rfl) ?_
    refine wF ([(ptr L.bN 0), (eN dn), (eN bn), (ptr nbx 0), undef, undef, (eN 8), (eN (s.askR (s.eraseOk ((dn : Nat) : Int) ((bn : Nat) : Int)))), (ptr tb 0), undef, undef, (ptr L.bN 0), (ptr L.bN 0), (eN dn), (eN bn), (Value.bool true), (Value.bool true), (ptr L.bN 0), (eN dn), (eN bn), (Value.bool false), (Value.bool true), (Value.bool true), (eN (s.askR (s.eraseOk ((dn : Nat) : Int) ((bn : Nat) : Int)))), (eN (s.askR (s.eraseOk ((dn : Nat) : Int) ((bn : Nat) : Int)))), (Value.bool (!decide ((s.askR (s.eraseOk ((dn : Nat) : Int) ((bn : Nat) : Int))) = 0))), undef, (ptr L.bN 0), (ptr L.bN 0), (ptr L.bN 11), L.ub, (eN dn), (ixp L.ub dn), (sli (L.bk.getD dn 0) 0 ((s.ask (s.eraseOk ((dn : Nat) : Int) ((bn : Nat) : Int))).gB) ((s.ask (s.eraseOk ((dn : Nat) : Int) ((bn : Nat) : Int))).gB)), (eN bn), (ptr (L.bk.getD dn 0) (bn * 3)), (ptr (L.bk.getD dn 0) (bn * 3 + 1)), (eI (((s.ask (s.eraseOk ((dn : Nat) : Int) ((bn : Nat) : Int))).bl dn bn).er)), (eI (IntKind.i64.wrap (((s.ask (s.eraseOk ((dn : Nat) : Int) ((bn : Nat) : Int))).bl dn bn).er + 1))), (ptr (L.bk.getD dn 0) (bn * 3)), (ptr (L.bk.getD dn 0) (bn * 3 + 1)), (ptr L.bN 0), (Value.bool (((s.ask (s.eraseOk ((dn : Nat) : Int) ((bn : Nat) : Int))).setB dn bn { (s.ask (s.eraseOk ((dn : Nat) : Int) ((bn : Nat) : Int))).bl dn bn with er := IntKind.i64.wrap (((s.ask (s.eraseOk ((dn : Nat) : Int) ((bn : Nat) : Int))).bl dn bn).er + 1) }).goesR)), (ptr L.bN 0), (ptr L.bN 0), (ptr L.bN 3), (Value.agg #[(eN ((((s.ask (s.eraseOk ((dn : Nat) : Int) ((bn : Nat) : Int))).setB dn bn { (s.ask (s.eraseOk ((dn : Nat) : Int) ((bn : Nat) : Int))).bl dn bn with er := IntKind.i64.wrap (((s.ask (s.eraseOk ((dn : Nat) : Int) ((bn : Nat) : Int))).bl dn bn).er + 1) }).goes).gD)), (eN ((((s.ask (s.eraseOk ((dn : Nat) : Int) ((bn : Nat) : Int))).setB dn bn { (s.ask (s.eraseOk ((dn : Nat) : Int) ((bn : Nat) : Int))).bl dn bn with er := IntKind.i64.wrap (((s.ask (s.eraseOk ((dn : Nat) : Int) ((bn : Nat) : Int))).bl dn bn).er + 1) }).goes).gB)), (eN ((((s.ask (s.eraseOk ((dn : Nat) : Int) ((bn : Nat) : Int))).setB dn bn { (s.ask (s.eraseOk ((dn : Nat) : Int) ((bn : Nat) : Int))).bl dn bn with er := IntKind.i64.wrap (((s.ask (s.eraseOk ((dn : Nat) : Int) ((bn : Nat) : Int))).bl dn bn).er + 1) }).goes).gP)), (sli L.bD 0 ((((s.ask (s.eraseOk ((dn : Nat) : Int) ((bn : Nat) : Int))).setB dn bn { (s.ask (s.eraseOk ((dn : Nat) : Int) ((bn : Nat) : Int))).bl dn bn with er := IntKind.i64.wrap (((s.ask (s.eraseOk ((dn : Nat) : Int) ((bn : Nat) : Int))).bl dn bn).er + 1) }).goes).n) ((((s.ask (s.eraseOk ((dn : Nat) : Int) ((bn : Nat) : Int))).setB dn bn { (s.ask (s.eraseOk ((dn : Nat) : Int) ((bn : Nat) : Int))).bl dn bn with er := IntKind.i64.wrap (((s.ask (s.eraseOk ((dn : Nat) : Int) ((bn : Nat) : Int))).bl dn bn).er + 1) }).goes).n))]), (eN dn), (eN bn), (Value.func (.func 63) #[] #[(ptr b42 0), (ptr b43 0), (ptr b44 0)])] ++ (us 17 ++ [(Value.bool (((s.ask (s.eraseOk ((dn : Nat) : Int) ((bn : Nat) : Int))).setB dn bn { (s.ask (s.eraseOk ((dn : Nat) : Int) ((bn : Nat) : Int))).bl dn bn with er := IntKind.i64.wrap (((s.ask (s.eraseOk ((dn : Nat) : Int) ((bn : Nat) : Int))).bl dn bn).er + 1) }).goesR))] ++ (us 10))) ?_
    refine wpL.done ?_
    refine then_n ?_
    refine wpIn_ret ?_
    refine then_r ?_
    refine leave (marks_ok aD_) (fun w68 o69 => ⟨res1 Try.results23 rfl, ?_⟩)
    replace o69 := only_mem o69
    replace hN := hN.stepb o69 in1
    replace a13 := a13.step o69 (fun e => absurd e n_nbx_D_)
    replace a38 := a38.step o69 (fun e => absurd e n_tb_D_)
    replace a50 := a50.step o69 (fun e => absurd e n_b44_D_)
    replace a48 := a48.step o69 (fun e => absurd e n_b42_D_)
    replace a49 := a49.step o69 (fun e => absurd e n_b43_D_)
    replace oW := oW.tailb o69 g_oW_D_
    replace o54 := o54.tailb o69 g_o54_D_
    obtain ⟨e1_, e2_⟩ := NS.erase_torn c0 c1
    exact ⟨congrArg eN e2_.symm, by rw [e1_]; exact (hN.less (xx_skip (xx_skip (xx_skip (xx_skip (xx_skip (xx_skip xx_id))))))), oW⟩
   refine wpIn_skip ?_
   refine then_n ?_
   refine wpIn_seq ?_
   refine plain ?_
   refine wI (d_load (v := (ptr L.bN 0)) ⟨_, Try.underlying27, rfl⟩ rfl a13 rfl) ?_
   refine wI (d_nilCheck (b := L.bN) (o := 0) rfl) ?_
   refine wI (d_fieldAddr (j := 11) Try.underlying73 rfl s_ti71 (by decide) rfl rfl) ?_
   refine wF ([(ptr L.bN 0), (eN dn), (eN bn), (ptr nbx 0), undef, undef, (eN 0), (eN (s.askR (s.eraseOk ((dn : Nat) : Int) ((bn : Nat) : Int)))), (ptr tb 0), undef, undef, (ptr L.bN 0), (ptr L.bN 0), (eN dn), (eN bn), (Value.bool true), (Value.bool true), (ptr L.bN 0), (eN dn), (eN bn), (Value.bool false), (Value.bool true), (Value.bool true), (eN (s.askR (s.eraseOk ((dn : Nat) : Int) ((bn : Nat) : Int)))), (eN (s.askR (s.eraseOk ((dn : Nat) : Int) ((bn : Nat) : Int)))), (Value.bool (!decide ((s.askR (s.eraseOk ((dn : Nat) : Int) ((bn : Nat) : Int))) = 0))), undef, (ptr L.bN 0), (ptr L.bN 0), (ptr L.bN 11), L.ub, (eN dn), (ixp L.ub dn), (sli (L.bk.getD dn 0) 0 ((s.ask (s.eraseOk ((dn : Nat) : Int) ((bn : Nat) : Int))).gB) ((s.ask (s.eraseOk ((dn : Nat) : Int) ((bn : Nat) : Int))).gB)), (eN bn), (ptr (L.bk.getD dn 0) (bn * 3)), (ptr (L.bk.getD dn 0) (bn * 3 + 1)), (eI (((s.ask (s.eraseOk ((dn : Nat) : Int) ((bn : Nat) : Int))).bl dn bn).er)), (eI (IntKind.i64.wrap (((s.ask (s.eraseOk ((dn : Nat) : Int) ((bn : Nat) : Int))).bl dn bn).er + 1))), (ptr (L.bk.getD dn 0) (bn * 3)), (ptr (L.bk.getD dn 0) (bn * 3 + 1)), (ptr L.bN 0), (Value.bool (((s.ask (s.eraseOk ((dn : Nat) : Int) ((bn : Nat) : Int))).setB dn bn { (s.ask (s.eraseOk ((dn : Nat) : Int) ((bn : Nat) : Int))).bl dn bn with er := IntKind.i64.wrap (((s.ask (s.eraseOk ((dn : Nat) : Int) ((bn : Nat) : Int))).bl dn bn).er + 1) }).goesR)), (ptr L.bN 0), (ptr L.bN 0), (ptr L.bN 3), (Value.agg #[(eN ((((s.ask (s.eraseOk ((dn : Nat) : Int) ((bn : Nat) : Int))).setB dn bn { (s.ask (s.eraseOk ((dn : Nat) : Int) ((bn : Nat) : Int))).bl dn bn with er := IntKind.i64.wrap (((s.ask (s.eraseOk ((dn : Nat) : Int) ((bn : Nat) : Int))).bl dn bn).er + 1) }).goes).gD)), (eN ((((s.ask (s.eraseOk ((dn : Nat) : Int) ((bn : Nat) : Int))).setB dn bn { (s.ask (s.eraseOk ((dn : Nat) : Int) ((bn : Nat) : Int))).bl dn bn with er := IntKind.i64.wrap (((s.ask (s.eraseOk ((dn : Nat) : Int) ((bn : Nat) : Int))).bl dn bn).er + 1) }).goes).gB)), (eN ((((s.ask (s.eraseOk ((dn : Nat) : Int) ((bn : Nat) : Int))).setB dn bn { (s.ask (s.eraseOk ((dn : Nat) : Int) ((bn : Nat) : Int))).bl dn bn with er := IntKind.i64.wrap (((s.ask (s.eraseOk ((dn : Nat) : Int) ((bn : Nat) : Int))).bl dn bn).er + 1) }).goes).gP)), (sli L.bD 0 ((((s.ask (s.eraseOk ((dn : Nat) : Int) ((bn : Nat) : Int))).setB dn bn { (s.ask (s.eraseOk ((dn : Nat) : Int) ((bn : Nat) : Int))).bl dn bn with er := IntKind.i64.wrap (((s.ask (s.eraseOk ((dn : Nat) : Int) ((bn : Nat) : Int))).bl dn bn).er + 1) }).goes).n) ((((s.ask (s.eraseOk ((dn : Nat) : Int) ((bn : Nat) : Int))).setB dn bn { (s.ask (s.eraseOk ((dn : Nat) : Int) ((bn : Nat) : Int))).bl dn bn with er := IntKind.i64.wrap (((s.ask (s.eraseOk ((dn : Nat) : Int) ((bn : Nat) : Int))).bl dn bn).er + 1) }).goes).n))]), (eN dn), (eN bn), (Value.func (.func 63) #[] #[(ptr b42 0), (ptr b43 0), (ptr b44 0)])] ++ (us 17 ++ [(Value.bool (((s.ask (s.eraseOk ((dn : Nat) : Int) ((bn : Nat) : Int))).setB dn bn { (s.ask (s.eraseOk ((dn : Nat) : Int) ((bn : Nat) : Int))).bl dn bn with er := IntKind.i64.wrap (((s.ask (s.eraseOk ((dn : Nat) : Int) ((bn : Nat) : Int))).bl dn bn).er + 1) }).goesR)), (ptr L.bN 0), (ptr L.bN 0), (ptr L.bN 11)] ++ (us 7))) ?_
   refine wI (nd_ld (v := L.ub) hN ⟨_, Try.underlying71, rfl⟩ rfl (fun _ => rfl)) ?_
   refine wI (d_move rfl) ?_
   refine wI (nd_ixU (i := dn) hN Try.underlying71 s_ti75 rfl (show _ = Value.int _ ((dn : Nat) : Int) from rfl) hd1) ?_
   refine wF ([(ptr L.bN 0), (eN dn), (eN bn), (ptr nbx 0), undef, undef, (eN 0), (eN (s.askR (s.eraseOk ((dn : Nat) : Int) ((bn : Nat) : Int)))), (ptr tb 0), undef, undef, (ptr L.bN 0), (ptr L.bN 0), (eN dn), (eN bn), (Value.bool true), (Value.bool true), (ptr L.bN 0), (eN dn), (eN bn), (Value.bool false), (Value.bool true), (Value.bool true), (eN (s.askR (s.eraseOk ((dn : Nat) : Int) ((bn : Nat) : Int)))), (eN (s.askR (s.eraseOk ((dn : Nat) : Int) ((bn : Nat) : Int)))), (Value.bool (!decide ((s.askR (s.eraseOk ((dn : Nat) : Int) ((bn : Nat) : Int))) = 0))), undef, (ptr L.bN 0), (ptr L.bN 0), (ptr L.bN 11), L.ub, (eN dn), (ixp L.ub dn), (sli (L.bk.getD dn 0) 0 ((s.ask (s.eraseOk ((dn : Nat) : Int) ((bn : Nat) : Int))).gB) ((s.ask (s.eraseOk ((dn : Nat) : Int) ((bn : Nat) : Int))).gB)), (eN bn), (ptr (L.bk.getD dn 0) (bn * 3)), (ptr (L.bk.getD dn 0) (bn * 3 + 1)), (eI (((s.ask (s.eraseOk ((dn : Nat) : Int) ((bn : Nat) : Int))).bl dn bn).er)), (eI (IntKind.i64.wrap (((s.ask (s.eraseOk ((dn : Nat) : Int) ((bn : Nat) : Int))).bl dn bn).er + 1))), (ptr (L.bk.getD dn 0) (bn * 3)), (ptr (L.bk.getD dn 0) (bn * 3 + 1)), (ptr L.bN 0), (Value.bool (((s.ask (s.eraseOk ((dn : Nat) : Int) ((bn : Nat) : Int))).setB dn bn { (s.ask (s.eraseOk ((dn : Nat) : Int) ((bn : Nat) : Int))).bl dn bn with er := IntKind.i64.wrap (((s.ask (s.eraseOk ((dn : Nat) : Int) ((bn : Nat) : Int))).bl dn bn).er + 1) }).goesR)), (ptr L.bN 0), (ptr L.bN 0), (ptr L.bN 3), (Value.agg #[(eN ((((s.ask (s.eraseOk ((dn : Nat) : Int) ((bn : Nat) : Int))).setB dn bn { (s.ask (s.eraseOk ((dn : Nat) : Int) ((bn : Nat) : Int))).bl dn bn with er := IntKind.i64.wrap (((s.ask (s.eraseOk ((dn : Nat) : Int) ((bn : Nat) : Int))).bl dn bn).er + 1) }).goes).gD)), (eN ((((s.ask (s.eraseOk ((dn : Nat) : Int) ((bn : Nat) : Int))).setB dn bn { (s.ask (s.eraseOk ((dn : Nat) : Int) ((bn : Nat) : Int))).bl dn bn with er := IntKind.i64.wrap (((s.ask (s.eraseOk ((dn : Nat) : Int) ((bn : Nat) : Int))).bl dn bn).er + 1) }).goes).gB)), (eN ((((s.ask (s.eraseOk ((dn : Nat) : Int) ((bn : Nat) : Int))).setB dn bn { (s.ask (s.eraseOk ((dn : Nat) : Int) ((bn : Nat) : Int))).bl dn bn with er := IntKind.i64.wrap (((s.ask (s.eraseOk ((dn : Nat) : Int) ((bn : Nat) : Int))).bl dn bn).er + 1) }).goes).gP)), (sli L.bD 0 ((((s.ask (s.eraseOk ((dn : Nat) : Int) ((bn : Nat) : Int))).setB dn bn { (s.ask (s.eraseOk ((dn : Nat) : Int) ((bn : Nat) : Int))).bl dn bn with er := IntKind.i64.wrap (((s.ask (s.eraseOk ((dn : Nat) : Int) ((bn : Nat) : Int))).bl dn bn).er + 1) }).goes).n) ((((s.ask (s.eraseOk ((dn : Nat) : Int) ((bn : Nat) : Int))).setB dn bn { (s.ask (s.eraseOk ((dn : Nat) : Int) ((bn : Nat) : Int))).bl dn bn with er := IntKind.i64.wrap (((s.ask (s.eraseOk ((dn : Nat) : Int) ((bn : Nat) : Int))).bl dn bn).er + 1) }).goes).n))]), (eN dn), (eN bn), (Value.func (.func 63) #[] #[(ptr b42 0), (ptr b43 0), (ptr b44 0)])] ++ (us 17 ++ [(Value.bool (((s.ask (s.eraseOk ((dn : Nat) : Int) ((bn : Nat) : Int))).setB dn bn { (s.ask (s.eraseOk ((dn : Nat) : Int) ((bn : Nat) : Int))).bl dn bn with er := IntKind.i64.wrap (((s.ask (s.eraseOk ((dn : Nat) : Int) ((bn : Nat) : Int))).bl dn bn).er + 1) }).goesR)), (ptr L.bN 0), (ptr L.bN 0), (ptr L.bN 11), L.ub, (eN dn), (ixp L.ub dn), undef, undef, undef, undef])) ?_
   refine wI (nd_ldU (i := dn) hN ⟨_, Try.underlying75, rfl⟩ rfl hd1) ?_
   refine wI (d_move rfl) ?_
   refine wI (d_index (b := (L.bk.getD dn 0)) (o := 0) (n := (((s.eraseA ((dn : Nat) : Int) ((bn : Nat) : Int)).eraseTo s.goesR dn bn s.gP).gB)) (c := (((s.eraseA ((dn : Nat) : Int) ((bn : Nat) : Int)).eraseTo s.goesR dn bn s.gP).gB)) (j := (bn * 3)) Try.underlying75 s_ti77 rfl (show _ = Value.int _ ((bn : Nat) : Int) from rfl) (by omega) (Int.ofNat_lt.2 hb1) (by simp)) ?_
   refine wF ([(ptr L.bN 0), (eN dn), (eN bn), (ptr nbx 0), undef, undef, (eN 0), (eN (s.askR (s.eraseOk ((dn : Nat) : Int) ((bn : Nat) : Int)))), (ptr tb 0), undef, undef, (ptr L.bN 0), (ptr L.bN 0), (eN dn), (eN bn), (Value.bool true), (Value.bool true), (ptr L.bN 0), (eN dn), (eN bn), (Value.bool false), (Value.bool true), (Value.bool true), (eN (s.askR (s.eraseOk ((dn : Nat) : Int) ((bn : Nat) : Int)))), (eN (s.askR (s.eraseOk ((dn : Nat) : Int) ((bn : Nat) : Int)))), (Value.bool (!decide ((s.askR (s.eraseOk ((dn : Nat) : Int) ((bn : Nat) : Int))) = 0))), undef, (ptr L.bN 0), (ptr L.bN 0), (ptr L.bN 11), L.ub, (eN dn), (ixp L.ub dn), (sli (L.bk.getD dn 0) 0 ((s.ask (s.eraseOk ((dn : Nat) : Int) ((bn : Nat) : Int))).gB) ((s.ask (s.eraseOk ((dn : Nat) : Int) ((bn : Nat) : Int))).gB)), (eN bn), (ptr (L.bk.getD dn 0) (bn * 3)), (ptr (L.bk.getD dn 0) (bn * 3 + 1)), (eI (((s.ask (s.eraseOk ((dn : Nat) : Int) ((bn : Nat) : Int))).bl dn bn).er)), (eI (IntKind.i64.wrap (((s.ask (s.eraseOk ((dn : Nat) : Int) ((bn : Nat) : Int))).bl dn bn).er + 1))), (ptr (L.bk.getD dn 0) (bn * 3)), (ptr (L.bk.getD dn 0) (bn * 3 + 1)), (ptr L.bN 0), (Value.bool (((s.ask (s.eraseOk ((dn : Nat) : Int) ((bn : Nat) : Int))).setB dn bn { (s.ask (s.eraseOk ((dn : Nat) : Int) ((bn : Nat) : Int))).bl dn bn with er := IntKind.i64.wrap (((s.ask (s.eraseOk ((dn : Nat) : Int) ((bn : Nat) : Int))).bl dn bn).er + 1) }).goesR)), (ptr L.bN 0), (ptr L.bN 0), (ptr L.bN 3), (Value.agg #[(eN ((((s.ask (s.eraseOk ((dn : Nat) : Int) ((bn : Nat) : Int))).setB dn bn { (s.ask (s.eraseOk ((dn : Nat) : Int) ((bn : Nat) : Int))).bl dn bn with er := IntKind.i64.wrap (((s.ask (s.eraseOk ((dn : Nat) : Int) ((bn : Nat) : Int))).bl dn bn).er + 1) }).goes).gD)), (eN ((((s.ask (s.eraseOk ((dn : Nat) : Int) ((bn : Nat) : Int))).setB dn bn { (s.ask (s.eraseOk ((dn : Nat) : Int) ((bn : Nat) : Int))).bl dn bn with er := IntKind.i64.wrap (((s.ask (s.eraseOk ((dn : Nat) : Int) ((bn : Nat) : Int))).bl dn bn).er + 1) }).goes).gB)), (eN ((((s.ask (s.eraseOk ((dn : Nat) : Int) ((bn : Nat) : Int))).setB dn bn { (s.ask (s.eraseOk ((dn : Nat) : Int) ((bn : Nat) : Int))).bl dn bn with er := IntKind.i64.wrap (((s.ask (s.eraseOk ((dn : Nat) : Int) ((bn : Nat) : Int))).bl dn bn).er + 1) }).goes).gP)), (sli L.bD 0 ((((s.ask (s.eraseOk ((dn : Nat) : Int) ((bn : Nat) : Int))).setB dn bn { (s.ask (s.eraseOk ((dn : Nat) : Int) ((bn : Nat) : Int))).bl dn bn with er := IntKind.i64.wrap (((s.ask (s.eraseOk ((dn : Nat) : Int) ((bn : Nat) : Int))).bl dn bn).er + 1) }).goes).n) ((((s.ask (s.eraseOk ((dn : Nat) : Int) ((bn : Nat) : Int))).setB dn bn { (s.ask (s.eraseOk ((dn : Nat) : Int) ((bn : Nat) : Int))).bl dn bn with er := IntKind.i64.wrap (((s.ask (s.eraseOk ((dn : Nat) : Int) ((bn : Nat) : Int))).bl dn bn).er + 1) }).goes).n))]), (eN dn), (eN bn), (Value.func (.func 63) #[] #[(ptr b42 0), (ptr b43 0), (ptr b44 0)])] ++ (us 17 ++ [(Value.bool (((s.ask (s.eraseOk ((dn : Nat) : Int) ((bn : Nat) : Int))).setB dn bn { (s.ask (s.eraseOk ((dn : Nat) : Int) ((bn : Nat) : Int))).bl dn bn with er := IntKind.i64.wrap (((s.ask (s.eraseOk ((dn : Nat) : Int) ((bn : Nat) : Int))).bl dn bn).er + 1) }).goesR)), (ptr L.bN 0), (ptr L.bN 0), (ptr L.bN 11), L.ub, (eN dn), (ixp L.ub dn), (sli (L.bk.getD dn 0) 0 (((s.eraseA ((dn : Nat) : Int) ((bn : Nat) : Int)).eraseTo s.goesR dn bn s.gP).gB) (((s.eraseA ((dn : Nat) : Int) ((bn : Nat) : Int)).eraseTo s.goesR dn bn s.gP).gB)), (eN bn), (ptr (L.bk.getD dn 0) (bn * 3)), undef])) ?_
   refine wI (d_fieldAddr (j := bn * 3) Try.underlying77 rfl s_ti3 (by decide) rfl rfl) ?_
   refine wO (nd_stS (i := dn) (j := bn) (f := 0) (x' := { ((s.eraseA ((dn : Nat) : Int) ((bn : Nat) : Int)).eraseTo s.goesR dn bn s.gP).bl dn bn with nx := 0 }) hN s_ti3 rfl rfl rfl hd1 hb1 (by decide) rfl (Nat.zero_le _)) ?_
   rintro _ w70 ⟨a71, o72⟩
   replace a13 := a13.step o72 (hN.dis _ (in2 (in2 (in2 (in2 (in2 in1))))))
   replace a38 := a38.step o72 (hN.dis _ (in2 (in2 (in2 (in2 in1)))))
   replace a50 := a50.step o72 (hN.dis _ (in2 in1))
   replace a48 := a48.step o72 (hN.dis _ (in2 (in2 (in2 in1))))
   replace a49 := a49.step o72 (hN.dis _ (in2 (in2 in1)))
   replace aD_ := aD_.step o72 (hN.dis _ in1)
   replace oW := oW.tail o72 (fun k _ e => (fun k h => h) k e)
   replace o54 := o54.tail o72 (fun k _ e => (sub2 (sub2 sub1)) k e)
   replace hN := a71
   refine wF ([(ptr L.bN 0), (eN dn), (eN bn), (ptr nbx 0), undef, undef, (eN 0), (eN (s.askR (s.eraseOk ((dn : Nat) : Int) ((bn : Nat) : Int)))), (ptr tb 0), undef, undef, (ptr L.bN 0), (ptr L.bN 0), (eN dn), (eN bn), (Value.bool true), (Value.bool true), (ptr L.bN 0), (eN dn), (eN bn), (Value.bool false), (Value.bool true), (Value.bool true), (eN (s.askR (s.eraseOk ((dn : Nat) : Int) ((bn : Nat) : Int)))), (eN (s.askR (s.eraseOk ((dn : Nat) : Int) ((bn : Nat) : Int)))), (Value.bool (!decide ((s.askR (s.eraseOk ((dn : Nat) : Int) ((bn : Nat) : Int))) = 0))), undef, (ptr L.bN 0), (ptr L.bN 0), (ptr L.bN 11), L.ub, (eN dn), (ixp L.ub dn), (sli (L.bk.getD dn 0) 0 ((s.ask (s.eraseOk ((dn : Nat) : Int) ((bn : Nat) : Int))).gB) ((s.ask (s.eraseOk ((dn : Nat) : Int) ((bn : Nat) : Int))).gB)), (eN bn), (ptr (L.bk.getD dn 0) (bn * 3)), (ptr (L.bk.getD dn 0) (bn * 3 + 1)), (eI (((s.ask (s.eraseOk ((dn : Nat) : Int) ((bn : Nat) : Int))).bl dn bn).er)), (eI (IntKind.i64.wrap (((s.ask (s.eraseOk ((dn : Nat) : Int) ((bn : Nat) : Int))).bl dn bn).er + 1))), (ptr (L.bk.getD dn 0) (bn * 3)), (ptr (L.bk.getD dn 0) (bn * 3 + 1)), (ptr L.bN 0), (Value.bool (((s.ask (s.eraseOk ((dn : Nat) : Int) ((bn : Nat) : Int))).setB dn bn { (s.ask (s.eraseOk ((dn : Nat) : Int) ((bn : Nat) : Int))).bl dn bn with er := IntKind.i64.wrap (((s.ask (s.eraseOk ((dn : Nat) : Int) ((bn : Nat) : Int))).bl dn bn).er + 1) }).goesR)), (ptr L.bN 0), (ptr L.bN 0), (ptr L.bN 3), (Value.agg #[(eN ((((s.ask (s.eraseOk ((dn : Nat) : Int) ((bn : Nat) : Int))).setB dn bn { (s.ask (s.eraseOk ((dn : Nat) : Int) ((bn : Nat) : Int))).bl dn bn with er := IntKind.i64.wrap (((s.ask (s.eraseOk ((dn : Nat) : Int) ((bn : Nat) : Int))).bl dn bn).er + 1) }).goes).gD)), (eN ((((s.ask (s.eraseOk ((dn : Nat) : Int) ((bn : Nat) : Int))).setB dn bn { (s.ask (s.eraseOk ((dn : Nat) : Int) ((bn : Nat) : Int))).bl dn bn with er := IntKind.i64.wrap (((s.ask (s.eraseOk ((dn : Nat) : Int) ((bn : Nat) : Int))).bl dn bn).er + 1) }).goes).gB)), (eN ((((s.ask (s.eraseOk ((dn : Nat) : Int) ((bn : Nat) : Int))).setB dn bn { (s.ask (s.eraseOk ((dn : Nat) : Int) ((bn : Nat) : Int))).bl dn bn with er := IntKind.i64.wrap (((s.ask (s.eraseOk ((dn : Nat) : Int) ((bn : Nat) : Int))).bl dn bn).er + 1) }).goes).gP)), (sli L.bD 0 ((((s.ask (s.eraseOk ((dn : Nat) : Int) ((bn : Nat) : Int))).setB dn bn { (s.ask (s.eraseOk ((dn : Nat) : Int) ((bn : Nat) : Int))).bl dn bn with er := IntKind.i64.wrap (((s.ask (s.eraseOk ((dn : Nat) : Int) ((bn : Nat) : Int))).bl dn bn).er + 1) }).goes).n) ((((s.ask (s.eraseOk ((dn : Nat) : Int) ((bn : Nat) : Int))).setB dn bn { (s.ask (s.eraseOk ((dn : Nat) : Int) ((bn : Nat) : Int))).bl dn bn with er := IntKind.i64.wrap (((s.ask (s.eraseOk ((dn : Nat) : Int) ((bn : Nat) : Int))).bl dn bn).er + 1) }).goes).n))]), (eN dn), (eN bn), (Value.func (.func 63) #[] #[(ptr b42 0), (ptr b43 0), (ptr b44 0)])] ++ (us 17 ++ [(Value.bool (((s.ask (s.eraseOk ((dn : Nat) : Int) ((bn : Nat) : Int))).setB dn bn { (s.ask (s.eraseOk ((dn : Nat) : Int) ((bn : Nat) : Int))).bl dn bn with er := IntKind.i64.wrap (((s.ask (s.eraseOk ((dn : Nat) : Int) ((bn : Nat) : Int))).bl dn bn).er + 1) }).goesR)), (ptr L.bN 0), (ptr L.bN 0), (ptr L.bN 11), L.ub, (eN dn), (ixp L.ub dn), (sli (L.bk.getD dn 0) 0 (((s.eraseA ((dn : Nat) : Int) ((bn : Nat) : Int)).eraseTo s.goesR dn bn s.gP).gB) (((s.eraseA ((dn : Nat) : Int) ((bn : Nat) : Int)).eraseTo s.goesR dn bn s.gP).gB)), (eN bn), (ptr (L.bk.getD dn 0) (bn * 3)), (ptr (L.bk.getD dn 0) (bn * 3))])) ?_
   refine wpL.done ?_
   refine then_n ?_
   refine wpIn_seq ?_
   refine plain ?_
   refine wI (d_assign rfl) ?_
   refine wF ([(ptr L.bN 0), (eN dn), (eN bn), (ptr nbx 0), undef, undef, (eN 0), (eN (s.askR (s.eraseOk ((dn : Nat) : Int) ((bn : Nat) : Int)))), (ptr tb 0), undef, undef, (ptr L.bN 0), (ptr L.bN 0), (eN dn), (eN bn), (Value.bool true), (Value.bool true), (ptr L.bN 0), (eN dn), (eN bn), (Value.bool false), (Value.bool true), (Value.bool true), (eN (s.askR (s.eraseOk ((dn : Nat) : Int) ((bn : Nat) : Int)))), (eN (s.askR (s.eraseOk ((dn : Nat) : Int) ((bn : Nat) : Int)))), (Value.bool (!decide ((s.askR (s.eraseOk ((dn : Nat) : Int) ((bn : Nat) : Int))) = 0))), undef, (ptr L.bN 0), (ptr L.bN 0), (ptr L.bN 11), L.ub, (eN dn), (ixp L.ub dn), (sli (L.bk.getD dn 0) 0 ((s.ask (s.eraseOk ((dn : Nat) : Int) ((bn : Nat) : Int))).gB) ((s.ask (s.eraseOk ((dn : Nat) : Int) ((bn : Nat) : Int))).gB)), (eN bn), (ptr (L.bk.getD dn 0) (bn * 3)), (ptr (L.bk.getD dn 0) (bn * 3 + 1)), (eI (((s.ask (s.eraseOk ((dn : Nat) : Int) ((bn : Nat) : Int))).bl dn bn).er)), (eI (IntKind.i64.wrap (((s.ask (s.eraseOk ((dn : Nat) : Int) ((bn : Nat) : Int))).bl dn bn).er + 1))), (ptr (L.bk.getD dn 0) (bn * 3)), (ptr (L.bk.getD dn 0) (bn * 3 + 1)), (ptr L.bN 0), (Value.bool (((s.ask (s.eraseOk ((dn : Nat) : Int) ((bn : Nat) : Int))).setB dn bn { (s.ask (s.eraseOk ((dn : Nat) : Int) ((bn : Nat) : Int))).bl dn bn with er := IntKind.i64.wrap (((s.ask (s.eraseOk ((dn : Nat) : Int) ((bn : Nat) : Int))).bl dn bn).er + 1) }).goesR)), (ptr L.bN 0), (ptr L.bN 0), (ptr L.bN 3), (Value.agg #[(eN ((((s.ask (s.eraseOk ((dn : Nat) : Int) ((bn : Nat) : Int))).setB dn bn { (s.ask (s.eraseOk ((dn : Nat) : Int) ((bn : Nat) : Int))).bl dn bn with er := IntKind.i64.wrap (((s.ask (s.eraseOk ((dn : Nat) : Int) ((bn : Nat) : Int))).bl dn bn).er + 1) }).goes).gD)), (eN ((((s.ask (s.eraseOk ((dn : Nat) : Int) ((bn : Nat) : Int))).setB dn bn { (s.ask (s.eraseOk ((dn : Nat) : Int) ((bn : Nat) : Int))).bl dn bn with er := IntKind.i64.wrap (((s.ask (s.eraseOk ((dn : Nat) : Int) ((bn : Nat) : Int))).bl dn bn).er + 1) }).goes).gB)), (eN ((((s.ask (s.eraseOk ((dn : Nat) : Int) ((bn : Nat) : Int))).setB dn bn { (s.ask (s.eraseOk ((dn : Nat) : Int) ((bn : Nat) : Int))).bl dn bn with er := IntKind.i64.wrap (((s.ask (s.eraseOk ((dn : Nat) : Int) ((bn : Nat) : Int))).bl dn bn).er + 1) }).goes).gP)), (sli L.bD 0 ((((s.ask (s.eraseOk ((dn : Nat) : Int) ((bn : Nat) : Int))).setB dn bn { (s.ask (s.eraseOk ((dn : Nat) : Int) ((bn : Nat) : Int))).bl dn bn with er := IntKind.i64.wrap (((s.ask (s.eraseOk ((dn : Nat) : Int) ((bn : Nat) : Int))).bl dn bn).er + 1) }).goes).n) ((((s.ask (s.eraseOk ((dn : Nat) : Int) ((bn : Nat) : Int))).setB dn bn { (s.ask (s.eraseOk ((dn : Nat) : Int) ((bn : Nat) : Int))).bl dn bn with er := IntKind.i64.wrap (((s.ask (s.eraseOk ((dn : Nat) : Int) ((bn : Nat) : Int))).bl dn bn).er + 1) }).goes).n))]), (eN dn), (eN bn), (Value.func (.func 63) #[] #[(ptr b42 0), (ptr b43 0), (ptr b44 0)])] ++ (us 17 ++ [(Value.bool (((s.ask (s.eraseOk ((dn : Nat) : Int) ((bn : Nat) : Int))).setB dn bn { (s.ask (s.eraseOk ((dn : Nat) : Int) ((bn : Nat) : Int))).bl dn bn with er := IntKind.i64.wrap (((s.ask (s.eraseOk ((dn : Nat) : Int) ((bn : Nat) : Int))).bl dn bn).er + 1) }).goesR)), (ptr L.bN 0), (ptr L.bN 0), (ptr L.bN 11), L.ub, (eN dn), (ixp L.ub dn), (sli (L.bk.getD dn 0) 0 (((s.eraseA ((dn : Nat) : Int) ((bn : Nat) : Int)).eraseTo s.goesR dn bn s.gP).gB) (((s.eraseA ((dn : Nat) : Int) ((bn : Nat) : Int)).eraseTo s.goesR dn bn s.gP).gB)), (eN bn), (ptr (L.bk.getD dn 0) (bn * 3)), (ptr (L.bk.getD dn 0) (bn * 3))])) ?_
   refine wpL.done ?_
   refine then_n ?_
   refine wpIn_ret ?_
   refine leave (marks_ok aD_) (fun w73 o74 => ⟨res1 Try.results23 rfl, ?_⟩)
   replace o74 := only_mem o74
   replace hN := hN.stepb o74 in1
   replace a13 := a13.step o74 (fun e => absurd e n_nbx_D_)
   replace a38 := a38.step o74 (fun e => absurd e n_tb_D_)
   replace a50 := a50.step o74 (fun e => absurd e n_b44_D_)
   replace a48 := a48.step o74 (fun e => absurd e n_b42_D_)
   replace a49 := a49.step o74 (fun e => absurd e n_b43_D_)
   replace oW := oW.tailb o74 g_oW_D_
   replace o54 := o54.tailb o74 g_o54_D_
   obtain ⟨e1_, e2_⟩ := NS.erase_yes c0 c1
   exact ⟨congrArg eN e2_.symm, by rw [e1_]; exact (hN.less (xx_skip (xx_skip (xx_skip (xx_skip (xx_skip (xx_skip xx_id))))))), oW⟩
  ·
   intro _ _ _ _ h _; exact h.elim
 refine drawnT (O := (Or1 nbx (Ors L.S No))) (n := 14) 12 [0, 0, 0, 0, 14, 30, 62, 62, 62, 510, 1022, 2046, 4095, 8191] [(0, 11), (1, 12), (2, 13), (3, 14), (4, 15), (5, 16), (6, 17), (7, 18), (8, 19), (9, 20), (10, 21), (11, 22), (12, 23), (13, 7)] [(0, 11), (1, 12), (2, 13), (3, 14), (4, 15), (5, 16), (6, 17), (7, 18), (8, 19), (9, 20), (10, 21), (11, 22)] [0, 1, 2, 3, 4, 5, 6, 7, 8, 9, 10, 11] [] (fun i_ => ([RF.is (Or1 nbx (Ors L.S No)) (ptr L.bN 0), RF.is (Or1 nbx (Ors L.S No)) (ptr L.bN 0), RF.is (Or1 nbx (Ors L.S No)) (eI d), RF.is (Or1 nbx (Ors L.S No)) (eI b), RF.is (Or1 nbx (Ors L.S No)) (Value.bool false), RF.is (Or1 nbx (Ors L.S No)) (Value.bool false), RF.is (Or1 nbx (Ors L.S No)) undef, RF.is (Or1 nbx (Ors L.S No)) undef, RF.is (Or1 nbx (Ors L.S No)) undef, RF.is (Or1 nbx (Ors L.S No)) undef, RF.is (Or1 nbx (Ors L.S No)) undef, RF.is (Or1 nbx (Ors L.S No)) (Value.bool false)] : List (RF (Or1 nbx (Ors L.S No)))).getD i_ (RF.any (Or1 nbx (Ors L.S No)))) (fun _ w_ => Arr 27 nbx [(ptr L.bN 0)] w_ ∧ Nd L s (Or1 nbx X) w_) (fun v75 => ([(ptr L.bN 0), (eI d), (eI b), (ptr nbx 0), undef, undef, (eN 0), (v75 13), undef, undef, undef, (v75 0), (v75 1), (v75 2), (v75 3), (v75 4), (v75 5), (v75 6), (v75 7), (v75 8), (v75 9), (v75 10), (v75 11), (v75 12)] ++ (us 54))) (fun v75 => ([(ptr L.bN 0), (eI d), (eI b), (ptr nbx 0), undef, undef, (eN 0), undef, undef, undef, undef, (v75 0), (v75 1), (v75 2), (v75 3), (v75 4), (v75 5), (v75 6), (v75 7), (v75 8), (v75 9), (v75 10), (v75 11)] ++ (us 55))) s_mx (by kernel_rfl) rfl (by decide) (by rfl) (by kernel_rfl) (by kernel_rfl) (by kernel_rfl) (by rfl) (fun v_ => by kernel_rfl) (fun v_ => by kernel_rfl) (fun _ => fun w_ w2_ h ho => by obtain ⟨r_a13, r_hN⟩ := h; exact ⟨r_a13.step0 ho, r_hN.step0 ho⟩) ⟨a13, hN⟩ ?_ ?_ ?_
 ·
  refine ls_cons ?_ ?_
  ·
   intro v75 lo hi w_ k_ hO hd _ _ hk_ _ hR hold
   obtain ⟨r_a13, r_hN⟩ := hR
   clear hd hold
   refine ⟨_, rfl, gd rfl ?_⟩
   exact Does.is (d_load (v := (ptr L.bN 0)) ⟨_, Try.underlying27, rfl⟩ rfl r_a13 rfl)
  refine ls_cons ?_ ?_
  ·
   intro v75 lo hi w_ k_ hO hd _ _ hk_ _ hR hold
   obtain ⟨r_a13, r_hN⟩ := hR
   clear hd hold
   refine ⟨_, rfl, gd rfl ?_⟩
   exact Does.is (d_load (v := (ptr L.bN 0)) ⟨_, Try.underlying27, rfl⟩ rfl r_a13 rfl)
  refine ls_cons ?_ ?_
  ·
   intro v75 lo hi w_ k_ hO hd _ _ hk_ _ hR hold
   obtain ⟨r_a13, r_hN⟩ := hR
   clear hd hold
   refine ⟨_, rfl, gd rfl ?_⟩
   exact Does.is (d_move rfl)
  refine ls_cons ?_ ?_
  ·
   intro v75 lo hi w_ k_ hO hd _ _ hk_ _ hR hold
   obtain ⟨r_a13, r_hN⟩ := hR
   clear hd hold
   refine ⟨_, rfl, gd rfl ?_⟩
   exact Does.is (d_move rfl)
  refine ls_cons ?_ ?_
  ·
   intro v75 lo hi w_ k_ hO hd _ _ hk_ _ hR hold
   obtain ⟨r_a13, r_hN⟩ := hR
   have e1 : v75 1 = (ptr L.bN 0) := hd 1 (by kernel_rfl)
   have e2 : v75 2 = (eI d) := hd 2 (by kernel_rfl)
   have e3 : v75 3 = (eI b) := hd 3 (by kernel_rfl)
   clear hd hold
   refine ⟨_, rfl, gd rfl ?_⟩
   exact d_call (xl := [.tmp 12, .tmp 13, .tmp 14]) (al := [(ptr L.bN 0), (eI d), (eI b)]) Try.func40 (by kernel_rfl) rfl (show ([(v75 1), (v75 2), (v75 3)] : List Value) = [(ptr L.bN 0), (eI d), (eI b)] from by rw [e1, e2, e3]) rfl (there_ok L s _ r_hN (r := false) d b (Bool.eq_false_iff.2 k0))
  refine ls_cons ?_ ?_
  ·
   intro v75 lo hi w_ k_ hO hd _ _ hk_ _ hR hold
   obtain ⟨r_a13, r_hN⟩ := hR
   have e4 : v75 4 = (Value.bool false) := hd 4 (by kernel_rfl)
   clear hd hold
   refine ⟨_, rfl, gd rfl ?_⟩
   exact Does.is (d_move (v := (Value.bool false)) e4)
  refine ls_cons ?_ ?_
  ·
   intro v75 lo hi w_ k_ hO hd _ _ hk_ _ hR hold
   obtain ⟨r_a13, r_hN⟩ := hR
   have e5 : v75 5 = (Value.bool false) := hd 5 (by kernel_rfl)
   clear hd hold
   refine ⟨_, rfl, gd_off rfl rfl rfl (nb rfl) e5 ?_⟩
   exact ⟨rfl, Only.refl _ _⟩
  refine ls_cons ?_ ?_
  ·
   intro v75 lo hi w_ k_ hO hd _ _ hk_ _ hR hold
   obtain ⟨r_a13, r_hN⟩ := hR
   have e5 : v75 5 = (Value.bool false) := hd 5 (by kernel_rfl)
   clear hd hold
   refine ⟨_, rfl, gd_off rfl rfl rfl (nb rfl) e5 ?_⟩
   exact ⟨rfl, Only.refl _ _⟩
  refine ls_cons ?_ ?_
  ·
   intro v75 lo hi w_ k_ hO hd _ _ hk_ _ hR hold
   obtain ⟨r_a13, r_hN⟩ := hR
   have e5 : v75 5 = (Value.bool false) := hd 5 (by kernel_rfl)
   clear hd hold
   refine ⟨_, rfl, gd_off rfl rfl rfl (nb rfl) e5 ?_⟩
   exact ⟨rfl, Only.refl _ _⟩
  refine ls_cons ?_ ?_
  ·
   intro v75 lo hi w_ k_ hO hd _ _ hk_ _ hR hold
   obtain ⟨r_a13, r_hN⟩ := hR
   have e5 : v75 5 = (Value.bool false) := hd 5 (by kernel_rfl)
   clear hd hold
   refine ⟨_, rfl, gd_off rfl rfl rfl (nb rfl) e5 ?_⟩
   exact ⟨rfl, Only.refl _ _⟩
  refine ls_cons ?_ ?_
  ·
   intro v75 lo hi w_ k_ hO hd _ _ hk_ _ hR hold
   obtain ⟨r_a13, r_hN⟩ := hR
   have e5 : v75 5 = (Value.bool false) := hd 5 (by kernel_rfl)
   clear hd hold
   refine ⟨_, rfl, gd_off rfl rfl rfl (nb rfl) e5 ?_⟩
   exact ⟨rfl, Only.refl _ _⟩
  refine ls_cons ?_ ?_
  ·
   intro v75 lo hi w_ k_ hO hd _ _ hk_ _ hR hold
   obtain ⟨r_a13, r_hN⟩ := hR
   have e5 : v75 5 = (Value.bool false) := hd 5 (by kernel_rfl)
   clear hd hold
   refine ⟨_, rfl, gd rfl ?_⟩
   exact Does.is (d_pick (b := false) (v := (Value.bool false)) e5 rfl)
  exact ls_nil
 ·
  exact ms_nil
 intro v75 lo_ hi_ w76 o77 hd iv_ hR
 have e0 : v75 0 = (ptr L.bN 0) := hd 0 (by decide)
 have e1 : v75 1 = (ptr L.bN 0) := hd 1 (by decide)
 have e2 : v75 2 = (eI d) := hd 2 (by decide)
 have e3 : v75 3 = (eI b) := hd 3 (by decide)
 have e4 : v75 4 = (Value.bool false) := hd 4 (by decide)
 have e5 : v75 5 = (Value.bool false) := hd 5 (by decide)
 have e6 : v75 6 = undef := hd 6 (by decide)
 have e7 : v75 7 = undef := hd 7 (by decide)
 have e8 : v75 8 = undef := hd 8 (by decide)
 have e9 : v75 9 = undef := hd 9 (by decide)
 have e10 : v75 10 = undef := hd 10 (by decide)
 have e11 : v75 11 = (Value.bool false) := hd 11 (by decide)
 clear hd iv_ lo_ hi_
 refine wpL.flat ([(ptr L.bN 0), (eI d), (eI b), (ptr nbx 0), undef, undef, (eN 0), undef, undef, undef, undef, (ptr L.bN 0), (ptr L.bN 0), (eI d), (eI b), (Value.bool false), (Value.bool false)] ++ (us 5 ++ [(Value.bool false)] ++ (us 55))) (by rw [e0, e1, e2, e3, e4, e5, e6, e7, e8, e9, e10, e11] <;> rfl) ?_
 clear e0 e1 e2 e3 e4 e5 e6 e7 e8 e9 e10 e11
 obtain ⟨xr_a13, xr_hN⟩ := hR
 replace a13 : Arr 27 nbx [(ptr L.bN 0)] w76 := xr_a13
 replace hN := xr_hN
 clear xr_a13 xr_hN
 replace oW := oW.tail o77 (tl_new g_oW_nbx (tl_sin (fun k h => h) tl_no))
 refine wO (d_call (xl := [.tmp 11, .tmp 22]) (al := [(ptr L.bN 0), (Value.bool false)]) Try.func47 (by kernel_rfl) rfl rfl rfl (ask_ok L s _ hN (g := (s.eraseOk d b)) false (by simp [NS.eraseOk, *]))) ?_
 rintro _ w78 ⟨rfl, a80, o79⟩
 replace a13 := a13.step o79 (hN.dis _ in1)
 replace oW := oW.tail o79 (fun k _ e => (fun k h => h) k e)
 replace hN := a80
 refine wI (d_assign rfl) ?_
 refine wF ([(ptr L.bN 0), (eI d), (eI b), (ptr nbx 0), undef, undef, (eN 0), (eN (s.askR (s.eraseOk d b))), undef, undef, undef, (ptr L.bN 0), (ptr L.bN 0), (eI d), (eI b), (Value.bool false), (Value.bool false)] ++ (us 5 ++ [(Value.bool false), (eN (s.askR (s.eraseOk d b)))] ++ (us 54))) ?_
 refine wpL.done ?_
 refine then_n ?_
 refine wpIn_seq ?_
 refine plain ?_
 refine wI (d_move rfl) ?_
 refine wI (n_neq (a := (s.askR (s.eraseOk d b))) (b := 0) rfl rfl rfl) ?_
 refine wF ([(ptr L.bN 0), (eI d), (eI b), (ptr nbx 0), undef, undef, (eN 0), (eN (s.askR (s.eraseOk d b))), undef, undef, undef, (ptr L.bN 0), (ptr L.bN 0), (eI d), (eI b), (Value.bool false), (Value.bool false)] ++ (us 5 ++ [(Value.bool false), (eN (s.askR (s.eraseOk d b))), (eN (s.askR (s.eraseOk d b))), (Value.bool (!decide ((s.askR (s.eraseOk d b)) = 0)))] ++ (us 52))) ?_
 refine wpL.done ?_
 refine then_n ?_
 refine cond_un rfl (fun c0 => ?_) (fun c0 => ?_)
 ·
  refine wpIn_seq ?_
  refine plain ?_
  refine wI (d_move rfl) ?_
  refine wI (d_assign rfl) ?_
  refine wF ([(ptr L.bN 0), (eI d), (eI b), (ptr nbx 0), undef, undef, (eN (s.askR (s.eraseOk d b))), (eN (s.askR (s.eraseOk d b))), undef, undef, undef, (ptr L.bN 0), (ptr L.bN 0), (eI d), (eI b), (Value.bool false), (Value.bool false)] ++ (us 5 ++ [(Value.bool false), (eN (s.askR (s.eraseOk d b))), (eN (s.askR (s.eraseOk d b))), (Value.bool (!decide ((s.askR (s.eraseOk d b)) = 0))), (eN (s.askR (s.eraseOk d b)))] ++ (us 51))) ?_
  refine wpL.done ?_
  refine then_n ?_
  refine wpIn_ret ?_
  refine then_r ?_
  refine leave0 (v := (eN (s.askR (s.eraseOk d b)))) (res1 Try.results23 rfl) ?_
  obtain ⟨e1_, e2_⟩ := NS.erase_no c0; exact ⟨congrArg eN e2_.symm, e1_ ▸ (hN.less (xx_skip xx_id)), oW⟩
 exact absurd c0 (NS.askR_no (by simp [NS.eraseOk, *]))

set_option maxRecDepth 20000 in
set_option maxHeartbeats 1000000 in
theorem fits_ok (D B Q : Nat) (W : World) (hD : 6 ≤ D ∧ D ≤ 8) (hB : 8 ≤ B ∧ B ≤ 12) (hQ : 4 ≤ Q ∧ Q ≤ 8) :
    CW Try.prog 36 #[(Value.agg #[(eN D), (eN B), (eN Q)])] W (Rt (RIs (.bool true) W)) := by
 have oW : Only No W W := Only.refl _ _
 refine enter (al := [(Value.agg #[(eN D), (eN B), (eN Q)])]) (k := 30) (l := ([(Value.agg #[(eN D), (eN B), (eN Q)])] ++ (us 30))) Try.func36 rfl Try.ntmps36 rfl rfl ?_
 refine wpIn_seq ?_
 refine plain ?_
 refine wO (d_box rfl rfl) ?_
 rintro _ w12 ⟨b11, rfl, g13, a14, o15⟩
 have g_oW_b11 : W.heap.size ≤ b11 := Nat.le_trans oW.size g13
 replace oW := oW.tail0 o15
 refine wI (d_assign rfl) ?_
 refine wF ([(Value.agg #[(eN D), (eN B), (eN Q)]), (ptr b11 0), (Value.bool false)] ++ (us 28)) ?_
 refine wpL.done ?_
 refine then_n ?_
 refine wpIn_seq ?_
 refine plain ?_
 refine wI (d_fieldAddr (j := 0) Try.underlying23 rfl s_ti3 (by decide) rfl rfl) ?_
 refine wI (d_load (v := (eN D)) ⟨_, Try.underlying3, rfl⟩ rfl a14 rfl) ?_
 refine wI (n_geq (a := D) (b := 6) rfl rfl (decide_eq_true (by omega))) ?_
 refine wF ([(Value.agg #[(eN D), (eN B), (eN Q)]), (ptr b11 0), (Value.bool false), (ptr b11 0), (eN D), (Value.bool true)] ++ (us 25)) ?_
 refine wI (d_move rfl) ?_
 refine wpL.onis rfl rfl rfl (nb rfl) rfl (d_fieldAddr (j := 0) Try.underlying23 rfl s_ti3 (by decide) rfl rfl) ?_
 refine wpL.onis rfl rfl rfl (nb rfl) rfl (d_load (v := (eN D)) ⟨_, Try.underlying3, rfl⟩ rfl a14 rfl) ?_
 refine wF ([(Value.agg #[(eN D), (eN B), (eN Q)]), (ptr b11 0), (Value.bool false), (ptr b11 0), (eN D), (Value.bool true), (Value.bool true), (ptr b11 0), (eN D)] ++ (us 22)) ?_
 refine wpL.onis rfl rfl rfl (nb rfl) rfl (n_leq (a := D) (b := 8) rfl rfl (decide_eq_true (by omega))) ?_
 refine wI (d_pick (b := true) (v := (Value.bool true)) rfl rfl) ?_
 refine wI (d_move rfl) ?_
 refine wF ([(Value.agg #[(eN D), (eN B), (eN Q)]), (ptr b11 0), (Value.bool false), (ptr b11 0), (eN D), (Value.bool true), (Value.bool true), (ptr b11 0), (eN D), (Value.bool true), (Value.bool true), (Value.bool true)] ++ (us 19)) ?_
 refine wpL.onis rfl rfl rfl (nb rfl) rfl (d_fieldAddr (j := 1) Try.underlying23 rfl s_ti3 (by decide) rfl rfl) ?_
 refine wpL.onis rfl rfl rfl (nb rfl) rfl (d_load (v := (eN B)) ⟨_, Try.underlying3, rfl⟩ rfl a14 rfl) ?_
 refine wpL.onis rfl rfl rfl (nb rfl) rfl (n_geq (a := B) (b := 8) rfl rfl (decide_eq_true (by omega))) ?_
 refine wF ([(Value.agg #[(eN D), (eN B), (eN Q)]), (ptr b11 0), (Value.bool false), (ptr b11 0), (eN D), (Value.bool true), (Value.bool true), (ptr b11 0), (eN D), (Value.bool true), (Value.bool true), (Value.bool true), (ptr b11 1), (eN B), (Value.bool true)] ++ (us 16)) ?_
 refine wI (d_pick (b := true) (v := (Value.bool true)) rfl rfl) ?_
 refine wI (d_move rfl) ?_
 refine wpL.onis rfl rfl rfl (nb rfl) rfl (d_fieldAddr (j := 1) Try.underlying23 rfl s_ti3 (by decide) rfl rfl) ?_
 refine wF ([(Value.agg #[(eN D), (eN B), (eN Q)]), (ptr b11 0), (Value.bool false), (ptr b11 0), (eN D), (Value.bool true), (Value.bool true), (ptr b11 0), (eN D), (Value.bool true), (Value.bool true), (Value.bool true), (ptr b11 1), (eN B), (Value.bool true), (Value.bool true), (Value.bool true), (ptr b11 1)] ++ (us 13)) ?_
 refine wpL.onis rfl rfl rfl (nb rfl) rfl (d_load (v := (eN B)) ⟨_, Try.underlying3, rfl⟩ rfl a14 rfl) ?_
 refine wpL.onis rfl rfl rfl (nb rfl) rfl (n_leq (a := B) (b := 12) rfl rfl (decide_eq_true (by omega))) ?_
 refine wI (d_pick (b := true) (v := (Value.bool true)) rfl rfl) ?_
 refine wF ([(Value.agg #[(eN D), (eN B), (eN Q)]), (ptr b11 0), (Value.bool false), (ptr b11 0), (eN D), (Value.bool true), (Value.bool true), (ptr b11 0), (eN D), (Value.bool true), (Value.bool true), (Value.bool true), (ptr b11 1), (eN B), (Value.bool true), (Value.bool true), (Value.bool true), (ptr b11 1), (eN B), (Value.bool true), (Value.bool true)] ++ (us 10)) ?_
 refine wI (d_move rfl) ?_
 refine wpL.onis rfl rfl rfl (nb rfl) rfl (d_fieldAddr (j := 2) Try.underlying23 rfl s_ti3 (by decide) rfl rfl) ?_
 refine wpL.onis rfl rfl rfl (nb rfl) rfl (d_load (v := (eN Q)) ⟨_, Try.underlying3, rfl⟩ rfl a14 rfl) ?_
 refine wF ([(Value.agg #[(eN D), (eN B), (eN Q)]), (ptr b11 0), (Value.bool false), (ptr b11 0), (eN D), (Value.bool true), (Value.bool true), (ptr b11 0), (eN D), (Value.bool true), (Value.bool true), (Value.bool true), (ptr b11 1), (eN B), (Value.bool true), (Value.bool true), (Value.bool true), (ptr b11 1), (eN B), (Value.bool true), (Value.bool true), (Value.bool true), (ptr b11 2), (eN Q)] ++ (us 7)) ?_
 refine wpL.onis rfl rfl rfl (nb rfl) rfl (n_geq (a := Q) (b := 4) rfl rfl (decide_eq_true (by omega))) ?_
 refine wI (d_pick (b := true) (v := (Value.bool true)) rfl rfl) ?_
 refine wI (d_move rfl) ?_
 refine wF [(Value.agg #[(eN D), (eN B), (eN Q)]), (ptr b11 0), (Value.bool false), (ptr b11 0), (eN D), (Value.bool true), (Value.bool true), (ptr b11 0), (eN D), (Value.bool true), (Value.bool true), (Value.bool true), (ptr b11 1), (eN B), (Value.bool true), (Value.bool true), (Value.bool true), (ptr b11 1), (eN B), (Value.bool true), (Value.bool true), (Value.bool true), (ptr b11 2), (eN Q), (Value.bool true), (Value.bool true), (Value.bool true), undef, undef, undef, undef] ?_
 refine wpL.onis rfl rfl rfl (nb rfl) rfl (d_fieldAddr (j := 2) Try.underlying23 rfl s_ti3 (by decide) rfl rfl) ?_
 refine wpL.onis rfl rfl rfl (nb rfl) rfl (d_load (v := (eN Q)) ⟨_, Try.underlying3, rfl⟩ rfl a14 rfl) ?_
 refine wpL.onis rfl rfl rfl (nb rfl) rfl (n_leq (a := Q) (b := 8) rfl rfl (decide_eq_true (by omega))) ?_
 refine wF [(Value.agg #[(eN D), (eN B), (eN Q)]), (ptr b11 0), (Value.bool false), (ptr b11 0), (eN D), (Value.bool true), (Value.bool true), (ptr b11 0), (eN D), (Value.bool true), (Value.bool true), (Value.bool true), (ptr b11 1), (eN B), (Value.bool true), (Value.bool true), (Value.bool true), (ptr b11 1), (eN B), (Value.bool true), (Value.bool true), (Value.bool true), (ptr b11 2), (eN Q), (Value.bool true), (Value.bool true), (Value.bool true), (ptr b11 2), (eN Q), (Value.bool true), undef] ?_
 refine wI (d_pick (b := true) (v := (Value.bool true)) rfl rfl) ?_
 refine wI (d_assign rfl) ?_
 refine wF [(Value.agg #[(eN D), (eN B), (eN Q)]), (ptr b11 0), (Value.bool true), (ptr b11 0), (eN D), (Value.bool true), (Value.bool true), (ptr b11 0), (eN D), (Value.bool true), (Value.bool true), (Value.bool true), (ptr b11 1), (eN B), (Value.bool true), (Value.bool true), (Value.bool true), (ptr b11 1), (eN B), (Value.bool true), (Value.bool true), (Value.bool true), (ptr b11 2), (eN Q), (Value.bool true), (Value.bool true), (Value.bool true), (ptr b11 2), (eN Q), (Value.bool true), (Value.bool true)] ?_
 refine wpL.done ?_
 refine then_n ?_
 refine forget (fun zf16 => ([(zf16 0), (zf16 1), (Value.bool true)] ++ (zs zf16 3 28))) (by kernel_rfl) (fun zf16 => ?_)
 refine wpIn_ret ?_
 refine leave0 (v := (Value.bool true)) (res1 Try.results36 rfl) ?_
 exact ⟨rfl, oW⟩

set_option maxRecDepth 20000 in
set_option maxHeartbeats 1000000 in
theorem noneD_ok (D B Q : Nat) (W : World) (hD : 6 ≤ D ∧ D ≤ 8) (hB : 8 ≤ B ∧ B ≤ 12) (hQ : 4 ≤ Q ∧ Q ≤ 8) :
    CW Try.prog 37 #[(Value.agg #[(eN D), (eN B), (eN Q)])] W (Rt (Made 36 W (fun b_ => .agg #[eN D, eN B, eN Q, sli b_ 0 (D * B * Q) (D * B * Q)]) (List.replicate (D * B * Q) (Value.slice none 0 0)))) := by
 have oW : Only No W W := Only.refl _ _
 refine enter (al := [(Value.agg #[(eN D), (eN B), (eN Q)])]) (k := 13) (l := ([(Value.agg #[(eN D), (eN B), (eN Q)])] ++ (us 13))) Try.func37 rfl Try.ntmps37 rfl rfl ?_
 have m1_ : D * B ≤ 8 * 12 := Nat.mul_le_mul hD.2 hB.2
 have m2_ : D * B * Q ≤ 8 * 12 * 8 := Nat.mul_le_mul m1_ hQ.2
 refine wpIn_seq ?_
 refine plain ?_
 refine wO (d_box rfl rfl) ?_
 rintro _ w11 ⟨gb, rfl, g12, a13, o14⟩
 have g_oW_gb : W.heap.size ≤ gb := Nat.le_trans oW.size g12
 replace oW := oW.tail0 o14
 refine wO (d_alloc s_ti65 rfl) ?_
 rintro _ w15 ⟨r, rfl, g16, a17, o18⟩
 have n_gb_r : gb ≠ r := a13.ne g16
 have g_oW_r : W.heap.size ≤ r := Nat.le_trans oW.size g16
 replace a13 := a13.step0 o18
 replace oW := oW.tail0 o18
 refine wF ([(Value.agg #[(eN D), (eN B), (eN Q)]), (ptr gb 0), (ptr r 0)] ++ (us 11)) ?_
 refine wpL.done ?_
 refine then_n ?_
 refine wpIn_seq ?_
 have hX0_ : ∀ k, (Or1 r (Or1 gb (Old W.heap.size))) k → k < w15.heap.size := (lt_or1 a17.lt (lt_or1 a13.lt (fun k t => Nat.lt_of_lt_of_le t oW.size)))
 have hO0_ : ∀ k, (Or1 r (Or1 gb No)) k → k < w15.heap.size := fun k h => hX0_ k ((or1_mono (or1_mono no_any)) k h)
 refine drawnT (O := (Or1 r (Or1 gb No))) (n := 12) 10 [0, 0, 2, 0, 8, 30, 0, 64, 254, 510, 1023, 2047] [(0, 3), (1, 4), (2, 5), (3, 6), (4, 7), (5, 8), (6, 9), (7, 10), (8, 11), (9, 12), (10, 13)] [(0, 3), (1, 4), (2, 5), (3, 6), (4, 7), (5, 8), (6, 9), (7, 10), (8, 11), (9, 12)] [0, 1, 2, 3, 4, 5, 6, 7, 8, 9] [] (fun i_ => ([RF.is (Or1 r (Or1 gb No)) (Value.agg #[(eN D), (eN B), (eN Q)]), RF.is (Or1 r (Or1 gb No)) (ptr gb 0), RF.is (Or1 r (Or1 gb No)) (eN D), RF.is (Or1 r (Or1 gb No)) (ptr gb 1), RF.is (Or1 r (Or1 gb No)) (eN B), RF.is (Or1 r (Or1 gb No)) (eN (D * B)), RF.is (Or1 r (Or1 gb No)) (ptr gb 2), RF.is (Or1 r (Or1 gb No)) (eN Q), RF.is (Or1 r (Or1 gb No)) (eN ((D * B) * Q)), RF.mk_ (Or1 r (Or1 gb No)) (fun b_ => (sli b_ 0 ((D * B) * Q) ((D * B) * Q))) 36 (List.replicate ((D * B) * Q) (Value.slice none 0 0)) w15.heap.size hO0_] : List (RF (Or1 r (Or1 gb No)))).getD i_ (RF.any (Or1 r (Or1 gb No)))) (fun _ w_ => Arr 23 gb [(eN D), (eN B), (eN Q)] w_ ∧ Arr 65 r [(eN 0), (eN 0), (eN 0), (Value.slice none 0 0)] w_) (fun v19 => [(Value.agg #[(eN D), (eN B), (eN Q)]), (ptr gb 0), (ptr r 0), (v19 0), (v19 1), (v19 2), (v19 3), (v19 4), (v19 5), (v19 6), (v19 7), (v19 8), (v19 9), (v19 10)]) (fun v19 => [(Value.agg #[(eN D), (eN B), (eN Q)]), (ptr gb 0), (ptr r 0), (v19 0), (v19 1), (v19 2), (v19 3), (v19 4), (v19 5), (v19 6), (v19 7), (v19 8), (v19 9), undef]) s_mx (by kernel_rfl) rfl (by decide) (by rfl) (by kernel_rfl) (by kernel_rfl) (by kernel_rfl) (by rfl) (fun v_ => by kernel_rfl) (fun v_ => by kernel_rfl) (fun _ => fun w_ w2_ h ho => by obtain ⟨r_a13, r_a17⟩ := h; exact ⟨r_a13.step0 ho, r_a17.step0 ho⟩) ⟨a13, a17⟩ ?_ ?_ ?_
 ·
  refine ls_cons ?_ ?_
  ·
   intro v19 lo hi w_ k_ hO hd _ _ hk_ _ hR hold
   obtain ⟨r_a13, r_a17⟩ := hR
   clear hd hold
   refine ⟨_, rfl, gd rfl ?_⟩
   exact Does.is (d_loadAg (vs := [(eN D), (eN B), (eN Q)]) ⟨_, Try.underlying23, rfl⟩ s_ti23 rfl r_a13 rfl rfl)
  refine ls_cons ?_ ?_
  ·
   intro v19 lo hi w_ k_ hO hd _ _ hk_ _ hR hold
   obtain ⟨r_a13, r_a17⟩ := hR
   clear hd hold
   refine ⟨_, rfl, gd rfl ?_⟩
   exact Does.is (d_fieldAddr (j := 0) Try.underlying23 rfl s_ti3 (by decide) rfl rfl)
  refine ls_cons ?_ ?_
  ·
   intro v19 lo hi w_ k_ hO hd _ _ hk_ _ hR hold
   obtain ⟨r_a13, r_a17⟩ := hR
   have e1 : v19 1 = (ptr gb 0) := hd 1 (by kernel_rfl)
   clear hd hold
   refine ⟨_, rfl, gd rfl ?_⟩
   exact Does.is (d_load (v := (eN D)) ⟨_, Try.underlying3, rfl⟩ e1 r_a13 rfl)
  refine ls_cons ?_ ?_
  ·
   intro v19 lo hi w_ k_ hO hd _ _ hk_ _ hR hold
   obtain ⟨r_a13, r_a17⟩ := hR
   clear hd hold
   refine ⟨_, rfl, gd rfl ?_⟩
   exact Does.is (d_fieldAddr (j := 1) Try.underlying23 rfl s_ti3 (by decide) rfl rfl)
  refine ls_cons ?_ ?_
  ·
   intro v19 lo hi w_ k_ hO hd _ _ hk_ _ hR hold
   obtain ⟨r_a13, r_a17⟩ := hR
   have e3 : v19 3 = (ptr gb 1) := hd 3 (by kernel_rfl)
   clear hd hold
   refine ⟨_, rfl, gd rfl ?_⟩
   exact Does.is (d_load (v := (eN B)) ⟨_, Try.underlying3, rfl⟩ e3 r_a13 rfl)
  refine ls_cons ?_ ?_
  ·
   intro v19 lo hi w_ k_ hO hd _ _ hk_ _ hR hold
   obtain ⟨r_a13, r_a17⟩ := hR
   have e2 : v19 2 = (eN D) := hd 2 (by kernel_rfl)
   have e4 : v19 4 = (eN B) := hd 4 (by kernel_rfl)
   clear hd hold
   refine ⟨_, rfl, gd rfl ?_⟩
   exact Does.is (n_mul (a := D) (b := B) e2 e4 (by omega))
  refine ls_cons ?_ ?_
  ·
   intro v19 lo hi w_ k_ hO hd _ _ hk_ _ hR hold
   obtain ⟨r_a13, r_a17⟩ := hR
   clear hd hold
   refine ⟨_, rfl, gd rfl ?_⟩
   exact Does.is (d_fieldAddr (j := 2) Try.underlying23 rfl s_ti3 (by decide) rfl rfl)
  refine ls_cons ?_ ?_
  ·
   intro v19 lo hi w_ k_ hO hd _ _ hk_ _ hR hold
   obtain ⟨r_a13, r_a17⟩ := hR
   have e6 : v19 6 = (ptr gb 2) := hd 6 (by kernel_rfl)
   clear hd hold
   refine ⟨_, rfl, gd rfl ?_⟩
   exact Does.is (d_load (v := (eN Q)) ⟨_, Try.underlying3, rfl⟩ e6 r_a13 rfl)
  refine ls_cons ?_ ?_
  ·
   intro v19 lo hi w_ k_ hO hd _ _ hk_ _ hR hold
   obtain ⟨r_a13, r_a17⟩ := hR
   have e5 : v19 5 = (eN (D * B)) := hd 5 (by kernel_rfl)
   have e7 : v19 7 = (eN Q) := hd 7 (by kernel_rfl)
   clear hd hold
   refine ⟨_, rfl, gd rfl ?_⟩
   exact Does.is (n_mul (a := (D * B)) (b := Q) e5 e7 (by omega))
  refine ls_cons ?_ ?_
  ·
   intro v19 lo hi w_ k_ hO hd _ _ hk_ _ hR hold
   obtain ⟨r_a13, r_a17⟩ := hR
   have e8 : v19 8 = (eN ((D * B) * Q)) := hd 8 (by kernel_rfl)
   clear hd hold
   refine ⟨_, rfl, gd rfl ?_⟩
   refine Does.mono (d_make1 (n := (D * B) * Q) Try.underlying63 s_ti36 e8 e8 (by omega) (by omega) rfl) (fun u w' h => by obtain ⟨b_, rfl, hb_, hA_, hO_⟩ := h; exact ⟨⟨b_, rfl, hA_, Nat.le_trans hO.size hb_⟩, hO_⟩)
  exact ls_nil
 ·
  exact ms_nil
 intro v19 lo_ hi_ w20 o21 hd iv_ hR
 have e0 : v19 0 = (Value.agg #[(eN D), (eN B), (eN Q)]) := hd 0 (by decide)
 have e1 : v19 1 = (ptr gb 0) := hd 1 (by decide)
 have e2 : v19 2 = (eN D) := hd 2 (by decide)
 have e3 : v19 3 = (ptr gb 1) := hd 3 (by decide)
 have e4 : v19 4 = (eN B) := hd 4 (by decide)
 have e5 : v19 5 = (eN (D * B)) := hd 5 (by decide)
 have e6 : v19 6 = (ptr gb 2) := hd 6 (by decide)
 have e7 : v19 7 = (eN Q) := hd 7 (by decide)
 have e8 : v19 8 = (eN ((D * B) * Q)) := hd 8 (by decide)
 obtain ⟨q, e9, a22, g23⟩ : ∃ b_, v19 9 = (fun b_ => (sli b_ 0 ((D * B) * Q) ((D * B) * Q))) b_ ∧ Arr 36 b_ (List.replicate ((D * B) * Q) (Value.slice none 0 0)) w20 ∧ w15.heap.size ≤ b_ := hd 9 (by decide)
 dsimp only at e9
 have n_gb_q : gb ≠ q := a13.ne g23
 have n_r_q : r ≠ q := a17.ne g23
 have g_oW_q : W.heap.size ≤ q := Nat.le_trans oW.size g23
 clear hd iv_ lo_ hi_
 refine wpL.flat [(Value.agg #[(eN D), (eN B), (eN Q)]), (ptr gb 0), (ptr r 0), (Value.agg #[(eN D), (eN B), (eN Q)]), (ptr gb 0), (eN D), (ptr gb 1), (eN B), (eN (D * B)), (ptr gb 2), (eN Q), (eN ((D * B) * Q)), (sli q 0 ((D * B) * Q) ((D * B) * Q)), undef] (by rw [e0, e1, e2, e3, e4, e5, e6, e7, e8, e9] <;> rfl) ?_
 clear e0 e1 e2 e3 e4 e5 e6 e7 e8 e9
 obtain ⟨xr_a13, xr_a17⟩ := hR
 replace a13 : Arr 23 gb [(eN D), (eN B), (eN Q)] w20 := xr_a13
 replace a17 : Arr 65 r [(eN 0), (eN 0), (eN 0), (Value.slice none 0 0)] w20 := xr_a17
 clear xr_a13 xr_a17
 replace oW := oW.tail o21 (tl_new g_oW_r (tl_new g_oW_gb tl_no))
 refine wI (d_buildS (pl := [(0, 3), (3, 1)]) (zs := [(eN 0), (eN 0), (eN 0), (Value.slice none 0 0)]) (cs := [(eN D), (eN B), (eN Q), (sli q 0 ((D * B) * Q) ((D * B) * Q))]) Try.underlying65 s_ti65 ⟨_, _, _, _, rfl, s_ti23, ⟨_, _, _, _, rfl, s_ti63, rfl⟩⟩ rfl (parts_cons (vs := [(eN D), (eN B), (eN Q)]) (cells_of (v := (Value.agg #[(eN D), (eN B), (eN Q)])) rfl rfl) (parts_cons (vs := [(sli q 0 ((D * B) * Q) ((D * B) * Q))]) (cells_of (v := (sli q 0 ((D * B) * Q) ((D * B) * Q))) rfl rfl) parts_nil)) rfl) ?_
 refine wO (d_storeAg (cs' := [(eN D), (eN B), (eN Q), (sli q 0 ((D * B) * Q) ((D * B) * Q))]) s_ti65 rfl rfl rfl (oc_cons rfl (oc_cons rfl (oc_cons rfl (oc_cons rfl oc_nil)))) a17 (by decide) rfl) ?_
 rintro _ w24 ⟨a25, o26⟩
 replace a13 := a13.step o26 (fun e => absurd e n_gb_r)
 replace a22 := a22.step o26 (fun e => absurd e (Ne.symm n_r_q))
 replace oW := oW.tailb o26 g_oW_r
 refine wF [(Value.agg #[(eN D), (eN B), (eN Q)]), (ptr gb 0), (ptr r 0), (Value.agg #[(eN D), (eN B), (eN Q)]), (ptr gb 0), (eN D), (ptr gb 1), (eN B), (eN (D * B)), (ptr gb 2), (eN Q), (eN ((D * B) * Q)), (sli q 0 ((D * B) * Q) ((D * B) * Q)), (Value.agg #[(eN D), (eN B), (eN Q), (sli q 0 ((D * B) * Q) ((D * B) * Q))])] ?_
 refine wpL.done ?_
 refine then_n ?_
 refine wpIn_ret ?_
 refine leave0 (v := (Value.agg #[(eN D), (eN B), (eN Q), (sli q 0 ((D * B) * Q) ((D * B) * Q))])) (resC Try.results37 ⟨_, Try.underlying65, rfl⟩ s_ti65 rfl a25 rfl) ?_
 exact ⟨q, rfl, g_oW_q, a22, oW⟩

set_option maxRecDepth 20000 in
set_option maxHeartbeats 1000000 in
theorem noneZ_ok (D B Q : Nat) (W : World) (hD : 6 ≤ D ∧ D ≤ 8) (hB : 8 ≤ B ∧ B ≤ 12) (hQ : 4 ≤ Q ∧ Q ≤ 8) :
    CW Try.prog 38 #[(Value.agg #[(eN D), (eN B), (eN Q)])] W (Rt (Made 37 W (fun b_ => .agg #[eN D, eN B, eN Q, sli b_ 0 (D * B * Q) (D * B * Q)]) (List.replicate (D * B * Q) (Value.slice none 0 0)))) := by
 have oW : Only No W W := Only.refl _ _
 refine enter (al := [(Value.agg #[(eN D), (eN B), (eN Q)])]) (k := 13) (l := ([(Value.agg #[(eN D), (eN B), (eN Q)])] ++ (us 13))) Try.func38 rfl Try.ntmps38 rfl rfl ?_
 have m1_ : D * B ≤ 8 * 12 := Nat.mul_le_mul hD.2 hB.2
 have m2_ : D * B * Q ≤ 8 * 12 * 8 := Nat.mul_le_mul m1_ hQ.2
 refine wpIn_seq ?_
 refine plain ?_
 refine wO (d_box rfl rfl) ?_
 rintro _ w11 ⟨gb, rfl, g12, a13, o14⟩
 have g_oW_gb : W.heap.size ≤ gb := Nat.le_trans oW.size g12
 replace oW := oW.tail0 o14
 refine wO (d_alloc s_ti69 rfl) ?_
 rintro _ w15 ⟨r, rfl, g16, a17, o18⟩
 have n_gb_r : gb ≠ r := a13.ne g16
 have g_oW_r : W.heap.size ≤ r := Nat.le_trans oW.size g16
 replace a13 := a13.step0 o18
 replace oW := oW.tail0 o18
 refine wF ([(Value.agg #[(eN D), (eN B), (eN Q)]), (ptr gb 0), (ptr r 0)] ++ (us 11)) ?_
 refine wpL.done ?_
 refine then_n ?_
 refine wpIn_seq ?_
 have hX0_ : ∀ k, (Or1 r (Or1 gb (Old W.heap.size))) k → k < w15.heap.size := (lt_or1 a17.lt (lt_or1 a13.lt (fun k t => Nat.lt_of_lt_of_le t oW.size)))
 have hO0_ : ∀ k, (Or1 r (Or1 gb No)) k → k < w15.heap.size := fun k h => hX0_ k ((or1_mono (or1_mono no_any)) k h)
 refine drawnT (O := (Or1 r (Or1 gb No))) (n := 12) 10 [0, 0, 2, 0, 8, 30, 0, 64, 254, 510, 1023, 2047] [(0, 3), (1, 4), (2, 5), (3, 6), (4, 7), (5, 8), (6, 9), (7, 10), (8, 11), (9, 12), (10, 13)] [(0, 3), (1, 4), (2, 5), (3, 6), (4, 7), (5, 8), (6, 9), (7, 10), (8, 11), (9, 12)] [0, 1, 2, 3, 4, 5, 6, 7, 8, 9] [] (fun i_ => ([RF.is (Or1 r (Or1 gb No)) (Value.agg #[(eN D), (eN B), (eN Q)]), RF.is (Or1 r (Or1 gb No)) (ptr gb 0), RF.is (Or1 r (Or1 gb No)) (eN D), RF.is (Or1 r (Or1 gb No)) (ptr gb 1), RF.is (Or1 r (Or1 gb No)) (eN B), RF.is (Or1 r (Or1 gb No)) (eN (D * B)), RF.is (Or1 r (Or1 gb No)) (ptr gb 2), RF.is (Or1 r (Or1 gb No)) (eN Q), RF.is (Or1 r (Or1 gb No)) (eN ((D * B) * Q)), RF.mk_ (Or1 r (Or1 gb No)) (fun b_ => (sli b_ 0 ((D * B) * Q) ((D * B) * Q))) 37 (List.replicate ((D * B) * Q) (Value.slice none 0 0)) w15.heap.size hO0_] : List (RF (Or1 r (Or1 gb No)))).getD i_ (RF.any (Or1 r (Or1 gb No)))) (fun _ w_ => Arr 23 gb [(eN D), (eN B), (eN Q)] w_ ∧ Arr 69 r [(eN 0), (eN 0), (eN 0), (Value.slice none 0 0)] w_) (fun v19 => [(Value.agg #[(eN D), (eN B), (eN Q)]), (ptr gb 0), (ptr r 0), (v19 0), (v19 1), (v19 2), (v19 3), (v19 4), (v19 5), (v19 6), (v19 7), (v19 8), (v19 9), (v19 10)]) (fun v19 => [(Value.agg #[(eN D), (eN B), (eN Q)]), (ptr gb 0), (ptr r 0), (v19 0), (v19 1), (v19 2), (v19 3), (v19 4), (v19 5), (v19 6), (v19 7), (v19 8), (v19 9), undef]) s_mx (by kernel_rfl) rfl (by decide) (by rfl) (by kernel_rfl) (by kernel_rfl) (by kernel_rfl) (by rfl) (fun v_ => by kernel_rfl) (fun v_ => by kernel_rfl) (fun _ => fun w_ w2_ h ho => by obtain ⟨r_a13, r_a17⟩ := h; exact ⟨r_a13.step0 ho, r_a17.step0 ho⟩) ⟨a13, a17⟩ ?_ ?_ ?_
 ·
  refine ls_cons ?_ ?_
  ·
   intro v19 lo hi w_ k_ hO hd _ _ hk_ _ hR hold
   obtain ⟨r_a13, r_a17⟩ := hR
   clear hd hold
   refine ⟨_, rfl, gd rfl ?_⟩
   exact Does.is (d_loadAg (vs := [(eN D), (eN B), (eN Q)]) ⟨_, Try.underlying23, rfl⟩ s_ti23 rfl r_a13 rfl rfl)
  refine ls_cons ?_ ?_
  ·
   intro v19 lo hi w_ k_ hO hd _ _ hk_ _ hR hold
   obtain ⟨r_a13, r_a17⟩ := hR
   clear hd hold
   refine ⟨_, rfl, gd rfl ?_⟩
   exact Does.is (d_fieldAddr (j := 0) Try.underlying23 rfl s_ti3 (by decide) rfl rfl)
  refine ls_cons ?_ ?_
  ·
   intro v19 lo hi w_ k_ hO hd _ _ hk_ _ hR hold
   obtain ⟨r_a13, r_a17⟩ := hR
   have e1 : v19 1 = (ptr gb 0) := hd 1 (by kernel_rfl)
   clear hd hold
   refine ⟨_, rfl, gd rfl ?_⟩
   exact Does.is (d_load (v := (eN D)) ⟨_, Try.underlying3, rfl⟩ e1 r_a13 rfl)
  refine ls_cons ?_ ?_
  ·
   intro v19 lo hi w_ k_ hO hd _ _ hk_ _ hR hold
   obtain ⟨r_a13, r_a17⟩ := hR
   clear hd hold
   refine ⟨_, rfl, gd rfl ?_⟩
   exact Does.is (d_fieldAddr (j := 1) Try.underlying23 rfl s_ti3 (by decide) rfl rfl)
  refine ls_cons ?_ ?_
  ·
   intro v19 lo hi w_ k_ hO hd _ _ hk_ _ hR hold
   obtain ⟨r_a13, r_a17⟩ := hR
   have e3 : v19 3 = (ptr gb 1) := hd 3 (by kernel_rfl)
   clear hd hold
   refine ⟨_, rfl, gd rfl ?_⟩
   exact Does.is (d_load (v := (eN B)) ⟨_, Try.underlying3, rfl⟩ e3 r_a13 rfl)
  refine ls_cons ?_ ?_
  ·
   intro v19 lo hi w_ k_ hO hd _ _ hk_ _ hR hold
   obtain ⟨r_a13, r_a17⟩ := hR
   have e2 : v19 2 = (eN D) := hd 2 (by kernel_rfl)
   have e4 : v19 4 = (eN B) := hd 4 (by kernel_rfl)
   clear hd hold
   refine ⟨_, rfl, gd rfl ?_⟩
   exact Does.is (n_mul (a := D) (b := B) e2 e4 (by omega))
  refine ls_cons ?_ ?_
  ·
   intro v19 lo hi w_ k_ hO hd _ _ hk_ _ hR hold
   obtain ⟨r_a13, r_a17⟩ := hR
   clear hd hold
   refine ⟨_, rfl, gd rfl ?_⟩
   exact Does.is (d_fieldAddr (j := 2) Try.underlying23 rfl s_ti3 (by decide) rfl rfl)
  refine ls_cons ?_ ?_
  ·
   intro v19 lo hi w_ k_ hO hd _ _ hk_ _ hR hold
   obtain ⟨r_a13, r_a17⟩ := hR
   have e6 : v19 6 = (ptr gb 2) := hd 6 (by kernel_rfl)
   clear hd hold
   refine ⟨_, rfl, gd rfl ?_⟩
   exact Does.is (d_load (v := (eN Q)) ⟨_, Try.underlying3, rfl⟩ e6 r_a13 rfl)
  refine ls_cons ?_ ?_
  ·
   intro v19 lo hi w_ k_ hO hd _ _ hk_ _ hR hold
   obtain ⟨r_a13, r_a17⟩ := hR
   have e5 : v19 5 = (eN (D * B)) := hd 5 (by kernel_rfl)
   have e7 : v19 7 = (eN Q) := hd 7 (by kernel_rfl)
   clear hd hold
   refine ⟨_, rfl, gd rfl ?_⟩
   exact Does.is (n_mul (a := (D * B)) (b := Q) e5 e7 (by omega))
  refine ls_cons ?_ ?_
  ·
   intro v19 lo hi w_ k_ hO hd _ _ hk_ _ hR hold
   obtain ⟨r_a13, r_a17⟩ := hR
   have e8 : v19 8 = (eN ((D * B) * Q)) := hd 8 (by kernel_rfl)
   clear hd hold
   refine ⟨_, rfl, gd rfl ?_⟩
   refine Does.mono (d_make1 (n := (D * B) * Q) Try.underlying67 s_ti37 e8 e8 (by omega) (by omega) rfl) (fun u w' h => by obtain ⟨b_, rfl, hb_, hA_, hO_⟩ := h; exact ⟨⟨b_, rfl, hA_, Nat.le_trans hO.size hb_⟩, hO_⟩)
  exact ls_nil
 ·
  exact ms_nil
 intro v19 lo_ hi_ w20 o21 hd iv_ hR
 have e0 : v19 0 = (Value.agg #[(eN D), (eN B), (eN Q)]) := hd 0 (by decide)
 have e1 : v19 1 = (ptr gb 0) := hd 1 (by decide)
 have e2 : v19 2 = (eN D) := hd 2 (by decide)
 have e3 : v19 3 = (ptr gb 1) := hd 3 (by decide)
 have e4 : v19 4 = (eN B) := hd 4 (by decide)
 have e5 : v19 5 = (eN (D * B)) := hd 5 (by decide)
 have e6 : v19 6 = (ptr gb 2) := hd 6 (by decide)
 have e7 : v19 7 = (eN Q) := hd 7 (by decide)
 have e8 : v19 8 = (eN ((D * B) * Q)) := hd 8 (by decide)
 obtain ⟨q, e9, a22, g23⟩ : ∃ b_, v19 9 = (fun b_ => (sli b_ 0 ((D * B) * Q) ((D * B) * Q))) b_ ∧ Arr 37 b_ (List.replicate ((D * B) * Q) (Value.slice none 0 0)) w20 ∧ w15.heap.size ≤ b_ := hd 9 (by decide)
 dsimp only at e9
 have n_gb_q : gb ≠ q := a13.ne g23
 have n_r_q : r ≠ q := a17.ne g23
 have g_oW_q : W.heap.size ≤ q := Nat.le_trans oW.size g23
 clear hd iv_ lo_ hi_
 refine wpL.flat [(Value.agg #[(eN D), (eN B), (eN Q)]), (ptr gb 0), (ptr r 0), (Value.agg #[(eN D), (eN B), (eN Q)]), (ptr gb 0), (eN D), (ptr gb 1), (eN B), (eN (D * B)), (ptr gb 2), (eN Q), (eN ((D * B) * Q)), (sli q 0 ((D * B) * Q) ((D * B) * Q)), undef] (by rw [e0, e1, e2, e3, e4, e5, e6, e7, e8, e9] <;> rfl) ?_
 clear e0 e1 e2 e3 e4 e5 e6 e7 e8 e9
 obtain ⟨xr_a13, xr_a17⟩ := hR
 replace a13 : Arr 23 gb [(eN D), (eN B), (eN Q)] w20 := xr_a13
 replace a17 : Arr 69 r [(eN 0), (eN 0), (eN 0), (Value.slice none 0 0)] w20 := xr_a17
 clear xr_a13 xr_a17
 replace oW := oW.tail o21 (tl_new g_oW_r (tl_new g_oW_gb tl_no))
 refine wI (d_buildS (pl := [(0, 3), (3, 1)]) (zs := [(eN 0), (eN 0), (eN 0), (Value.slice none 0 0)]) (cs := [(eN D), (eN B), (eN Q), (sli q 0 ((D * B) * Q) ((D * B) * Q))]) Try.underlying69 s_ti69 ⟨_, _, _, _, rfl, s_ti23, ⟨_, _, _, _, rfl, s_ti67, rfl⟩⟩ rfl (parts_cons (vs := [(eN D), (eN B), (eN Q)]) (cells_of (v := (Value.agg #[(eN D), (eN B), (eN Q)])) rfl rfl) (parts_cons (vs := [(sli q 0 ((D * B) * Q) ((D * B) * Q))]) (cells_of (v := (sli q 0 ((D * B) * Q) ((D * B) * Q))) rfl rfl) parts_nil)) rfl) ?_
 refine wO (d_storeAg (cs' := [(eN D), (eN B), (eN Q), (sli q 0 ((D * B) * Q) ((D * B) * Q))]) s_ti69 rfl rfl rfl (oc_cons rfl (oc_cons rfl (oc_cons rfl (oc_cons rfl oc_nil)))) a17 (by decide) rfl) ?_
 rintro _ w24 ⟨a25, o26⟩
 replace a13 := a13.step o26 (fun e => absurd e n_gb_r)
 replace a22 := a22.step o26 (fun e => absurd e (Ne.symm n_r_q))
 replace oW := oW.tailb o26 g_oW_r
 refine wF [(Value.agg #[(eN D), (eN B), (eN Q)]), (ptr gb 0), (ptr r 0), (Value.agg #[(eN D), (eN B), (eN Q)]), (ptr gb 0), (eN D), (ptr gb 1), (eN B), (eN (D * B)), (ptr gb 2), (eN Q), (eN ((D * B) * Q)), (sli q 0 ((D * B) * Q) ((D * B) * Q)), (Value.agg #[(eN D), (eN B), (eN Q), (sli q 0 ((D * B) * Q) ((D * B) * Q))])] ?_
 refine wpL.done ?_
 refine then_n ?_
 refine wpIn_ret ?_
 refine leave0 (v := (Value.agg #[(eN D), (eN B), (eN Q), (sli q 0 ((D * B) * Q) ((D * B) * Q))])) (resC Try.results38 ⟨_, Try.underlying69, rfl⟩ s_ti69 rfl a25 rfl) ?_
 exact ⟨q, rfl, g_oW_q, a22, oW⟩

end Go.Proofs.YtpamdlnobekihaaF
