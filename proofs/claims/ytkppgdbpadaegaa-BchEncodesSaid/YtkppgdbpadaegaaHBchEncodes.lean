import Derived.Test.YtkppgdbpadaegaaFl
import Derived.Test.YtkppgdbpadaegaaTy
import Derived.Test.YtkppgdbpadaegaaHutil
import Derived.Test.YtkppgdbpadaegaaMj
import Derived.Test.YtkppgdbpadaegaaHref4
set_option linter.unusedVariables false
set_option linter.unusedSimpArgs false
namespace Go.Proofs.YtkppgdbpadaegaaF
open Go Go.Shelf Go.Proofs.YtkppgdbpadaegaaS Ram
set_option maxRecDepth 20000 in
set_option maxHeartbeats 1000000 in
theorem bchEncodes_law (la lb : List UInt8) (u1 u2 : Value) (W : World) (h1 : Ps No (Seq kB la u1) W) (h2 : Ps No (Seq kB lb u2) W) (g1 : la.length ≤ 140737488351232) (g2 : lb.length ≤ 140737488351232) :
    CW Try.prog 5 #[u1, u2] W (Rt (RIs (.bool true) W)) := by
 have oW : Only No W W := Only.refl _ _
 refine enter (al := [u1, u2]) (k := 50) (l := ([u1, u2] ++ (us 50))) Try.func5 rfl Try.ntmps5 rfl rfl ?_
 refine wpIn_seq ?_
 refine plain ?_
 refine wpL.is rfl (d_assign rfl) ?_
 refine wpL.flat ([u1, u2, undef, undef, (Value.bool false)] ++ (us 47)) (by kernel_rfl) ?_
 refine wpL.done ?_
 refine then_n ?_
 refine wpIn_seq ?_
 refine wpIn_seq ?_
 refine plain ?_
 refine wpL.op rfl (d_call (xl := []) (al := []) Try.func13 (by kernel_rfl) rfl rfl rfl (l4known_ok _)) ?_
 rintro _ w11 ⟨rfl, o12⟩
 replace h1 := h1.step0 o12
 replace h2 := h2.step0 o12
 replace oW := oW.tail0 o12
 refine wpL.is rfl (d_not rfl rfl) ?_
 refine wpL.flat ([u1, u2, undef, undef, (Value.bool false), undef, undef, (Value.bool true), (Value.bool false)] ++ (us 43)) (by kernel_rfl) ?_
 refine wpL.done ?_
 refine then_n ?_
 refine cond_f rfl ?_
 refine wpIn_skip ?_
 refine then_n ?_
 refine wpIn_seq ?_
 refine wpIn_seq ?_
 refine plain ?_
 refine wpL.is rfl (d_move rfl) ?_
 refine wpL.is rfl (d_lenS rfl Try.underlying22 rfl h2) ?_
 refine wpL.is rfl (n_gtr (a := lb.length) (b := 40) rfl rfl rfl) ?_
 refine wpL.flat ([u1, u2, undef, undef, (Value.bool false), undef, undef, (Value.bool true), (Value.bool false), u2, (eN lb.length), (Value.bool (decide (40 < lb.length)))] ++ (us 40)) (by kernel_rfl) ?_
 refine wpL.done ?_
 refine then_n ?_
 refine cond_if rfl (fun k1 => ?_) (fun k1 => ?_)
 ·
  refine wpIn_seq ?_
  refine plain ?_
  refine wpL.is rfl (d_assign rfl) ?_
  refine wpL.flat ([u1, u2, undef, undef, (Value.bool true), undef, undef, (Value.bool true), (Value.bool false), u2, (eN lb.length), (Value.bool (decide (40 < lb.length)))] ++ (us 40)) (by kernel_rfl) ?_
  refine wpL.done ?_
  refine then_n ?_
  refine wpIn_ret ?_
  refine then_r ?_
  refine leave0 (v := (Value.bool true)) (res1 Try.results5 rfl) ?_
  exact ⟨rfl, oW⟩
 ·
  refine wpIn_skip ?_
  refine then_n ?_
  refine wpIn_seq ?_
  refine plain ?_
  refine wpL.is rfl (d_move rfl) ?_
  refine wpL.op rfl (d_call (xl := [.tmp 12, .const (.int .i64 24)]) (al := [u1, (eN 24)]) Try.func14 (by kernel_rfl) rfl rfl rfl (l4Data_ok la 24 u1 _ (Ps.no h1) (by omega))) ?_
  rintro u15 w13 f16
  replace f16 := f16.ps
  obtain ⟨f16, o14⟩ := f16
  replace f16 := f16.less (Y := (Old W.heap.size)) (old_old oW.size)
  replace h1 := h1.step0 o14
  replace h2 := h2.step0 o14
  replace oW := oW.tail0 o14
  refine wpL.is rfl (d_assign rfl) ?_
  refine wpL.flat ([u1, u2, undef, undef, (Value.bool false), u15, undef, (Value.bool true), (Value.bool false), u2, (eN lb.length), (Value.bool (decide (40 < lb.length))), u1, u15] ++ (us 38)) (by kernel_rfl) ?_
  refine wpL.done ?_
  refine then_n ?_
  refine forget (fun zf17 => ([(zf17 0), u2, (zf17 2), (zf17 3), (zf17 4), u15] ++ (zs zf17 6 10 ++ (us 21 ++ [(zf17 37)] ++ (us 14))))) (by kernel_rfl) (fun zf17 => ?_)
  refine wpIn_seq ?_
  refine plain ?_
  refine wpL.is rfl (d_move rfl) ?_
  refine wpL.op rfl (d_call (xl := [.tmp 14]) (al := [u15]) Try.func15 (by kernel_rfl) rfl rfl rfl (bchEncode_ok (dataL la 24) u15 _ (Ps.no f16) (by have := dataL_length la 24; first | omega | (simp; done) | (simp; omega)))) ?_
  rintro u20 w18 f21
  replace f21 := f21.ps
  obtain ⟨f21, o19⟩ := f21
  replace f21 := f21.less (Y := (Old W.heap.size)) (old_old oW.size)
  replace h1 := h1.step0 o19
  replace h2 := h2.step0 o19
  replace f16 := f16.step0 o19
  replace oW := oW.tail0 o19
  refine wpL.is rfl (d_assign rfl) ?_
  refine wpL.flat ([(zf17 0), u2, (zf17 2), (zf17 3), (zf17 4), u15, u20] ++ (zs zf17 7 7 ++ [u15, u20] ++ (us 21 ++ [(zf17 37)] ++ (us 14)))) (by kernel_rfl) ?_
  refine wpL.done ?_
  have he_ := encR_length (dataL_length la 24)
  refine then_n ?_
  refine wpIn_seq ?_
  refine wpIn_seq ?_
  refine drawn' (O := No) (n := 22) [0, 1, 0, 4, 12, 31, 63, 127, 255, 511, 127, 1535, 3583, 8191, 16383, 32767, 65535, 131071, 131071, 393215, 1048575, 2097151] [(0, 16), (1, 17), (2, 18), (3, 19), (4, 20), (5, 21), (6, 22), (7, 23), (8, 24), (9, 25), (10, 26), (11, 27), (12, 28), (13, 29), (14, 30), (15, 31), (16, 32), (17, 33), (18, 34), (19, 35), (20, 36), (21, 37)] [0, 1, 2, 3, 4, 5, 6, 7, 8, 9, 10, 11, 12, 13, 14, 15, 16, 17, 18, 19, 20, 21] [] (fun i_ => ([RF.is No u20, RF.is No (Value.string (strOf (encR (dataL la 24)))), RF.is No u15, RF.ps No (Old W.heap.size) (Seq kB (encR (dataL la 24))) no_any, RF.is No (Value.string (strOf (encR (dataL la 24)))), RF.is No (Value.bool false), RF.is No (Value.bool false), RF.is No u2, RF.ps No (Old W.heap.size) (Seq kB (encR lb)) no_any, RF.is No (Value.string (strOf (encR lb))), RF.is No u2, RF.ps No (Old W.heap.size) (Seq kB (encR lb)) no_any, RF.is No (Value.string (strOf (encR lb))), RF.is No (Value.bool false), RF.is No (Value.bool false), RF.is No (Value.bool false), RF.ps No (Old W.heap.size) (Seq kB genP) no_any, RF.is No (Value.string (strOf genP)), RF.ps No (Old W.heap.size) (Seq kB genP) no_any, RF.is No (Value.string (strOf genP)), RF.is No (Value.bool false), RF.is No (Value.bool false)] : List (RF No)).getD i_ (RF.any No)) (fun _ w_ => True) (fun v22 => ([(zf17 0), u2, (zf17 2), (zf17 3), (zf17 4), u15, u20] ++ (zs zf17 7 7 ++ [u15, u20, (v22 0), (v22 1), (v22 2), (v22 3), (v22 4), (v22 5), (v22 6), (v22 7), (v22 8), (v22 9), (v22 10), (v22 11), (v22 12), (v22 13), (v22 14), (v22 15), (v22 16), (v22 17), (v22 18), (v22 19), (v22 20), (v22 21)] ++ (us 14)))) s_mx (by kernel_rfl) rfl (by kernel_rfl) (by rfl) (fun v_ => by kernel_rfl) (fun _ => fun _ _ _ _ => trivial) trivial ?_ ?_ ?_
  ·
   refine ls_cons ?_ ?_
   ·
    intro v22 lo hi w_ k_ hO hd _ _ hk_ _ hR hold
    clear hd hold
    refine ⟨_, rfl, gd rfl ?_⟩
    exact Does.is (d_move rfl)
   refine ls_cons ?_ ?_
   ·
    intro v22 lo hi w_ k_ hO hd _ _ hk_ _ hR hold
    have e0 : v22 0 = u20 := hd 0 (by kernel_rfl)
    clear hd hold
    refine ⟨_, rfl, gd rfl ?_⟩
    exact Does.is (d_str Try.underlying22 Try.underlying5 Try.underlying9 e0 (f21.step hO no_any))
   refine ls_cons ?_ ?_
   ·
    intro v22 lo hi w_ k_ hO hd _ _ hk_ _ hR hold
    clear hd hold
    refine ⟨_, rfl, gd rfl ?_⟩
    exact Does.is (d_move rfl)
   refine ls_cons ?_ ?_
   ·
    intro v22 lo hi w_ k_ hO hd _ _ hk_ _ hR hold
    have e2 : v22 2 = u15 := hd 2 (by kernel_rfl)
    clear hd hold
    refine ⟨_, rfl, gd rfl ?_⟩
    refine Does.mono (R := ROw 5 eB (encR (dataL la 24)) w_) ?_ (fun u w' h => ⟨(h.ps).1.less (old_old (Nat.le_trans oW.size hO.size)), (h.ps).2⟩)
    exact d_call (xl := [.tmp 18]) (al := [u15]) Try.func22 (by kernel_rfl) rfl (show ([(v22 2)] : List Value) = [u15] from by rw [e2]) rfl (ref4Enc_ok (dataL la 24) u15 _ (Ps.no (f16.step hO no_any)) (by have := dataL_length la 24; first | omega | (simp; done) | (simp; omega)))
   refine ls_cons ?_ ?_
   ·
    intro v22 lo hi w_ k_ hO hd _ _ hk_ _ hR hold
    have d3 : Ps (Old W.heap.size) (Seq kB (encR (dataL la 24)) (v22 3)) w_ := hd 3 (by kernel_rfl)
    clear hd hold
    refine ⟨_, rfl, gd rfl ?_⟩
    exact Does.is (d_str Try.underlying22 Try.underlying5 Try.underlying9 rfl d3)
   refine ls_cons ?_ ?_
   ·
    intro v22 lo hi w_ k_ hO hd _ _ hk_ _ hR hold
    have e1 : v22 1 = (Value.string (strOf (encR (dataL la 24)))) := hd 1 (by kernel_rfl)
    have e4 : v22 4 = (Value.string (strOf (encR (dataL la 24)))) := hd 4 (by kernel_rfl)
    clear hd hold
    refine ⟨_, rfl, gd rfl ?_⟩
    exact Does.is (d_sneq (a := (encR (dataL la 24))) (c := (encR (dataL la 24))) e1 e4 (by rw [decide_eq_true rfl]; rfl))
   refine ls_cons ?_ ?_
   ·
    intro v22 lo hi w_ k_ hO hd _ _ hk_ _ hR hold
    have e5 : v22 5 = (Value.bool false) := hd 5 (by kernel_rfl)
    clear hd hold
    refine ⟨_, rfl, gd rfl ?_⟩
    exact Does.is (d_move (v := (Value.bool false)) e5)
   refine ls_cons ?_ ?_
   ·
    intro v22 lo hi w_ k_ hO hd _ _ hk_ _ hR hold
    have e6 : v22 6 = (Value.bool false) := hd 6 (by kernel_rfl)
    clear hd hold
    refine ⟨_, rfl, gd_on rfl rfl rfl (Nat.le_of_ble_eq_true rfl) e6 ?_⟩
    exact Does.is (d_move rfl)
   refine ls_cons ?_ ?_
   ·
    intro v22 lo hi w_ k_ hO hd _ _ hk_ _ hR hold
    have e6 : v22 6 = (Value.bool false) := hd 6 (by kernel_rfl)
    have e7 : v22 7 = u2 := hd 7 (by kernel_rfl)
    clear hd hold
    refine ⟨_, rfl, gd_on rfl rfl rfl (Nat.le_of_ble_eq_true rfl) e6 ?_⟩
    refine Does.mono (R := ROw 5 eB (encR lb) w_) ?_ (fun u w' h => ⟨(h.ps).1.less (old_old (Nat.le_trans oW.size hO.size)), (h.ps).2⟩)
    exact d_call (xl := [.tmp 23]) (al := [u2]) Try.func15 (by kernel_rfl) rfl (show ([(v22 7)] : List Value) = [u2] from by rw [e7]) rfl (bchEncode_ok lb u2 _ (Ps.no (h2.step hO no_any)) (by first | omega | (simp; done) | (simp; omega)))
   refine ls_cons ?_ ?_
   ·
    intro v22 lo hi w_ k_ hO hd _ _ hk_ _ hR hold
    have e6 : v22 6 = (Value.bool false) := hd 6 (by kernel_rfl)
    have d8 : Ps (Old W.heap.size) (Seq kB (encR lb) (v22 8)) w_ := hd 8 (by kernel_rfl)
    clear hd hold
    refine ⟨_, rfl, gd_on rfl rfl rfl (Nat.le_of_ble_eq_true rfl) e6 ?_⟩
    exact Does.is (d_str Try.underlying22 Try.underlying5 Try.underlying9 rfl d8)
   refine ls_cons ?_ ?_
   ·
    intro v22 lo hi w_ k_ hO hd _ _ hk_ _ hR hold
    have e6 : v22 6 = (Value.bool false) := hd 6 (by kernel_rfl)
    clear hd hold
    refine ⟨_, rfl, gd_on rfl rfl rfl (Nat.le_of_ble_eq_true rfl) e6 ?_⟩
    exact Does.is (d_move rfl)
   refine ls_cons ?_ ?_
   ·
    intro v22 lo hi w_ k_ hO hd _ _ hk_ _ hR hold
    have e10 : v22 10 = u2 := hd 10 (by kernel_rfl)
    have e6 : v22 6 = (Value.bool false) := hd 6 (by kernel_rfl)
    clear hd hold
    refine ⟨_, rfl, gd_on rfl rfl rfl (Nat.le_of_ble_eq_true rfl) e6 ?_⟩
    refine Does.mono (R := ROw 5 eB (encR lb) w_) ?_ (fun u w' h => ⟨(h.ps).1.less (old_old (Nat.le_trans oW.size hO.size)), (h.ps).2⟩)
    exact d_call (xl := [.tmp 26]) (al := [u2]) Try.func22 (by kernel_rfl) rfl (show ([(v22 10)] : List Value) = [u2] from by rw [e10]) rfl (ref4Enc_ok lb u2 _ (Ps.no (h2.step hO no_any)) (by first | omega | (simp; done) | (simp; omega)))
   refine ls_cons ?_ ?_
   ·
    intro v22 lo hi w_ k_ hO hd _ _ hk_ _ hR hold
    have d11 : Ps (Old W.heap.size) (Seq kB (encR lb) (v22 11)) w_ := hd 11 (by kernel_rfl)
    have e6 : v22 6 = (Value.bool false) := hd 6 (by kernel_rfl)
    clear hd hold
    refine ⟨_, rfl, gd_on rfl rfl rfl (Nat.le_of_ble_eq_true rfl) e6 ?_⟩
    exact Does.is (d_str Try.underlying22 Try.underlying5 Try.underlying9 rfl d11)
   refine ls_cons ?_ ?_
   ·
    intro v22 lo hi w_ k_ hO hd _ _ hk_ _ hR hold
    have e12 : v22 12 = (Value.string (strOf (encR lb))) := hd 12 (by kernel_rfl)
    have e6 : v22 6 = (Value.bool false) := hd 6 (by kernel_rfl)
    have e9 : v22 9 = (Value.string (strOf (encR lb))) := hd 9 (by kernel_rfl)
    clear hd hold
    refine ⟨_, rfl, gd_on rfl rfl rfl (Nat.le_of_ble_eq_true rfl) e6 ?_⟩
    exact Does.is (d_sneq (a := (encR lb)) (c := (encR lb)) e9 e12 (by rw [decide_eq_true rfl]; rfl))
   refine ls_cons ?_ ?_
   ·
    intro v22 lo hi w_ k_ hO hd _ _ hk_ _ hR hold
    have e13 : v22 13 = (Value.bool false) := hd 13 (by kernel_rfl)
    have e6 : v22 6 = (Value.bool false) := hd 6 (by kernel_rfl)
    clear hd hold
    refine ⟨_, rfl, gd rfl ?_⟩
    exact Does.is (d_pick (b := false) (v := (Value.bool false)) e6 e13)
   refine ls_cons ?_ ?_
   ·
    intro v22 lo hi w_ k_ hO hd _ _ hk_ _ hR hold
    have e14 : v22 14 = (Value.bool false) := hd 14 (by kernel_rfl)
    clear hd hold
    refine ⟨_, rfl, gd rfl ?_⟩
    exact Does.is (d_move (v := (Value.bool false)) e14)
   refine ls_cons ?_ ?_
   ·
    intro v22 lo hi w_ k_ hO hd _ _ hk_ _ hR hold
    have e15 : v22 15 = (Value.bool false) := hd 15 (by kernel_rfl)
    clear hd hold
    refine ⟨_, rfl, gd_on rfl rfl rfl (Nat.le_of_ble_eq_true rfl) e15 ?_⟩
    refine Does.mono (R := ROw 5 eB genP w_) ?_ (fun u w' h => ⟨(h.ps).1.less (old_old (Nat.le_trans oW.size hO.size)), (h.ps).2⟩)
    exact d_call (xl := []) (al := []) Try.func17 (by kernel_rfl) rfl rfl rfl (bchGen_ok _)
   refine ls_cons ?_ ?_
   ·
    intro v22 lo hi w_ k_ hO hd _ _ hk_ _ hR hold
    have e15 : v22 15 = (Value.bool false) := hd 15 (by kernel_rfl)
    have d16 : Ps (Old W.heap.size) (Seq kB genP (v22 16)) w_ := hd 16 (by kernel_rfl)
    clear hd hold
    refine ⟨_, rfl, gd_on rfl rfl rfl (Nat.le_of_ble_eq_true rfl) e15 ?_⟩
    exact Does.is (d_str Try.underlying22 Try.underlying5 Try.underlying9 rfl d16)
   refine ls_cons ?_ ?_
   ·
    intro v22 lo hi w_ k_ hO hd _ _ hk_ _ hR hold
    have e15 : v22 15 = (Value.bool false) := hd 15 (by kernel_rfl)
    clear hd hold
    refine ⟨_, rfl, gd_on rfl rfl rfl (Nat.le_of_ble_eq_true rfl) e15 ?_⟩
    refine Does.mono (R := ROw 5 eB genP w_) ?_ (fun u w' h => ⟨(h.ps).1.less (old_old (Nat.le_trans oW.size hO.size)), (h.ps).2⟩)
    exact d_call (xl := []) (al := []) Try.func21 (by kernel_rfl) rfl rfl rfl (ref4Gen_ok _)
   refine ls_cons ?_ ?_
   ·
    intro v22 lo hi w_ k_ hO hd _ _ hk_ _ hR hold
    have e15 : v22 15 = (Value.bool false) := hd 15 (by kernel_rfl)
    have d18 : Ps (Old W.heap.size) (Seq kB genP (v22 18)) w_ := hd 18 (by kernel_rfl)
    clear hd hold
    refine ⟨_, rfl, gd_on rfl rfl rfl (Nat.le_of_ble_eq_true rfl) e15 ?_⟩
    exact Does.is (d_str Try.underlying22 Try.underlying5 Try.underlying9 rfl d18)
   refine ls_cons ?_ ?_
   ·
    intro v22 lo hi w_ k_ hO hd _ _ hk_ _ hR hold
    have e15 : v22 15 = (Value.bool false) := hd 15 (by kernel_rfl)
    have e17 : v22 17 = (Value.string (strOf genP)) := hd 17 (by kernel_rfl)
    have e19 : v22 19 = (Value.string (strOf genP)) := hd 19 (by kernel_rfl)
    clear hd hold
    refine ⟨_, rfl, gd_on rfl rfl rfl (Nat.le_of_ble_eq_true rfl) e15 ?_⟩
    exact Does.is (d_sneq (a := genP) (c := genP) e17 e19 (by rw [decide_eq_true rfl]; rfl))
   refine ls_cons ?_ ?_
   ·
    intro v22 lo hi w_ k_ hO hd _ _ hk_ _ hR hold
    have e15 : v22 15 = (Value.bool false) := hd 15 (by kernel_rfl)
    have e20 : v22 20 = (Value.bool false) := hd 20 (by kernel_rfl)
    clear hd hold
    refine ⟨_, rfl, gd rfl ?_⟩
    exact Does.is (d_pick (b := false) (v := (Value.bool false)) e15 e20)
   exact ls_nil
  ·
   exact ms_nil
  intro v22 lo_ hi_ w23 o24 hd iv_ hR
  have e0 : v22 0 = u20 := hd 0 (by decide)
  have e1 : v22 1 = (Value.string (strOf (encR (dataL la 24)))) := hd 1 (by decide)
  have e2 : v22 2 = u15 := hd 2 (by decide)
  have e4 : v22 4 = (Value.string (strOf (encR (dataL la 24)))) := hd 4 (by decide)
  have e5 : v22 5 = (Value.bool false) := hd 5 (by decide)
  have e6 : v22 6 = (Value.bool false) := hd 6 (by decide)
  have e7 : v22 7 = u2 := hd 7 (by decide)
  have e9 : v22 9 = (Value.string (strOf (encR lb))) := hd 9 (by decide)
  have e10 : v22 10 = u2 := hd 10 (by decide)
  have e12 : v22 12 = (Value.string (strOf (encR lb))) := hd 12 (by decide)
  have e13 : v22 13 = (Value.bool false) := hd 13 (by decide)
  have e14 : v22 14 = (Value.bool false) := hd 14 (by decide)
  have e15 : v22 15 = (Value.bool false) := hd 15 (by decide)
  have e17 : v22 17 = (Value.string (strOf genP)) := hd 17 (by decide)
  have e19 : v22 19 = (Value.string (strOf genP)) := hd 19 (by decide)
  have e20 : v22 20 = (Value.bool false) := hd 20 (by decide)
  have e21 : v22 21 = (Value.bool false) := hd 21 (by decide)
  have f_v22_3 : Ps (Old W.heap.size) (Seq kB (encR (dataL la 24)) (v22 3)) w23 := hd 3 (by decide)
  have f_v22_8 : Ps (Old W.heap.size) (Seq kB (encR lb) (v22 8)) w23 := hd 8 (by decide)
  have f_v22_11 : Ps (Old W.heap.size) (Seq kB (encR lb) (v22 11)) w23 := hd 11 (by decide)
  have f_v22_16 : Ps (Old W.heap.size) (Seq kB genP (v22 16)) w23 := hd 16 (by decide)
  have f_v22_18 : Ps (Old W.heap.size) (Seq kB genP (v22 18)) w23 := hd 18 (by decide)
  clear hd iv_ lo_ hi_
  refine fr_eq (l' := ([(zf17 0), u2, (zf17 2), (zf17 3), (zf17 4), u15, u20] ++ (zs zf17 7 7 ++ [u15, u20, u20, (Value.string (strOf (encR (dataL la 24)))), u15, (v22 3), (Value.string (strOf (encR (dataL la 24)))), (Value.bool false), (Value.bool false), u2, (v22 8), (Value.string (strOf (encR lb))), u2, (v22 11), (Value.string (strOf (encR lb))), (Value.bool false), (Value.bool false), (Value.bool false), (v22 16), (Value.string (strOf genP)), (v22 18), (Value.string (strOf genP)), (Value.bool false), (Value.bool false)] ++ (us 14)))) (by rw [e0, e1, e2, e4, e5, e6, e7, e9, e10, e12, e13, e14, e15, e17, e19, e20, e21] <;> rfl) ?_
  clear e0 e1 e2 e4 e5 e6 e7 e9 e10 e12 e13 e14 e15 e17 e19 e20 e21
  replace h1 := h1.step o24 no_any
  replace h2 := h2.step o24 no_any
  replace f16 := f16.step o24 no_any
  replace f21 := f21.step o24 no_any
  clear hR
  replace oW := oW.tail o24 tl_no
  refine then_n ?_
  refine forget (fun zf25 => (zs zf25 0 5 ++ [u15, u20] ++ (zs zf25 7 30 ++ [(Value.bool false)] ++ (us 14)))) (by kernel_rfl) (fun zf25 => ?_)
  refine cond_f rfl ?_
  refine wpIn_skip ?_
  refine then_n ?_
  refine wpIn_seq ?_
  refine drawn' (O := No) (n := 15) [0, 1, 3, 0, 8, 31, 63, 127, 255, 511, 127, 1151, 4095, 8191, 16383] [(0, 38), (1, 39), (2, 40), (3, 41), (4, 42), (5, 43), (6, 44), (7, 45), (8, 46), (9, 47), (10, 48), (11, 49), (12, 50), (13, 51), (14, 4)] [0, 1, 2, 3, 4, 5, 6, 7, 8, 9, 10, 11, 12, 13, 14] [] (fun i_ => ([RF.is No u20, RF.ps No (Old W.heap.size) (Seq kB (synR (encR (dataL la 24)))) no_any, RF.is No (Value.string (strOf (synR (encR (dataL la 24))))), RF.ps No (Old W.heap.size) (Seq kB (List.replicate 8 0)) no_any, RF.is No (Value.string (strOf (List.replicate 8 0))), RF.is No (Value.bool true), RF.is No (Value.bool true), RF.is No u20, RF.ps No (Old W.heap.size) (Seq kB ((encR (dataL la 24)).drop 4)) no_any, RF.is No (Value.string (strOf ((encR (dataL la 24)).drop 4))), RF.is No u15, RF.is No (Value.string (strOf (dataL la 24))), RF.is No (Value.bool true), RF.is No (Value.bool true), RF.is No (Value.bool true)] : List (RF No)).getD i_ (RF.any No)) (fun _ w_ => True) (fun v26 => ([(zf25 0), (zf25 1), (zf25 2), (zf25 3), (v26 14), u15, u20] ++ (zs zf25 7 30 ++ [(Value.bool false), (v26 0), (v26 1), (v26 2), (v26 3), (v26 4), (v26 5), (v26 6), (v26 7), (v26 8), (v26 9), (v26 10), (v26 11), (v26 12), (v26 13)]))) s_mx (by kernel_rfl) rfl (by kernel_rfl) (by rfl) (fun v_ => by kernel_rfl) (fun _ => fun _ _ _ _ => trivial) trivial ?_ ?_ ?_
  ·
   refine ls_cons ?_ ?_
   ·
    intro v26 lo hi w_ k_ hO hd _ _ hk_ _ hR hold
    clear hd hold
    refine ⟨_, rfl, gd rfl ?_⟩
    exact Does.is (d_move rfl)
   refine ls_cons ?_ ?_
   ·
    intro v26 lo hi w_ k_ hO hd _ _ hk_ _ hR hold
    have e0 : v26 0 = u20 := hd 0 (by kernel_rfl)
    clear hd hold
    refine ⟨_, rfl, gd rfl ?_⟩
    refine Does.mono (R := ROw 5 eB (synR (encR (dataL la 24))) w_) ?_ (fun u w' h => ⟨(h.ps).1.less (old_old (Nat.le_trans oW.size hO.size)), (h.ps).2⟩)
    exact d_call (xl := [.tmp 38]) (al := [u20]) Try.func23 (by kernel_rfl) rfl (show ([(v26 0)] : List Value) = [u20] from by rw [e0]) rfl (bchSyn_ok (encR (dataL la 24)) u20 _ (Ps.no (f21.step hO no_any)) (by have := dataL_length la 24; have := encR_len (dataL la 24); first | omega | (simp; done) | (simp; omega)))
   refine ls_cons ?_ ?_
   ·
    intro v26 lo hi w_ k_ hO hd _ _ hk_ _ hR hold
    have d1 : Ps (Old W.heap.size) (Seq kB (synR (encR (dataL la 24))) (v26 1)) w_ := hd 1 (by kernel_rfl)
    clear hd hold
    refine ⟨_, rfl, gd rfl ?_⟩
    exact Does.is (d_str Try.underlying22 Try.underlying5 Try.underlying9 rfl d1)
   refine ls_cons ?_ ?_
   ·
    intro v26 lo hi w_ k_ hO hd _ _ hk_ _ hR hold
    clear hd hold
    refine ⟨_, rfl, gd rfl ?_⟩
    refine Does.mono (d_make1 (n := 8) Try.underlying22 s_ti5 rfl rfl (by omega) (by omega) rfl) (fun u w' h => ⟨(made_zero h).1.less (old_old (Nat.le_trans oW.size hO.size)), (made_zero h).2⟩)
   refine ls_cons ?_ ?_
   ·
    intro v26 lo hi w_ k_ hO hd _ _ hk_ _ hR hold
    have d3 : Ps (Old W.heap.size) (Seq kB (List.replicate 8 0) (v26 3)) w_ := hd 3 (by kernel_rfl)
    clear hd hold
    refine ⟨_, rfl, gd rfl ?_⟩
    exact Does.is (d_str Try.underlying22 Try.underlying5 Try.underlying9 rfl d3)
   refine ls_cons ?_ ?_
   ·
    intro v26 lo hi w_ k_ hO hd _ _ hk_ _ hR hold
    have e2 : v26 2 = (Value.string (strOf (synR (encR (dataL la 24))))) := hd 2 (by kernel_rfl)
    have e4 : v26 4 = (Value.string (strOf (List.replicate 8 0))) := hd 4 (by kernel_rfl)
    clear hd hold
    refine ⟨_, rfl, gd rfl ?_⟩
    exact Does.is (d_seql (a := (synR (encR (dataL la 24)))) (c := (List.replicate 8 0)) e2 e4 (decide_eq_true (synR_code (encR_code (dataL_length la 24)))))
   refine ls_cons ?_ ?_
   ·
    intro v26 lo hi w_ k_ hO hd _ _ hk_ _ hR hold
    have e5 : v26 5 = (Value.bool true) := hd 5 (by kernel_rfl)
    clear hd hold
    refine ⟨_, rfl, gd rfl ?_⟩
    exact Does.is (d_move (v := (Value.bool true)) e5)
   refine ls_cons ?_ ?_
   ·
    intro v26 lo hi w_ k_ hO hd _ _ hk_ _ hR hold
    have e6 : v26 6 = (Value.bool true) := hd 6 (by kernel_rfl)
    clear hd hold
    refine ⟨_, rfl, gd_on rfl rfl rfl (Nat.le_of_ble_eq_true rfl) e6 ?_⟩
    exact Does.is (d_move rfl)
   refine ls_cons ?_ ?_
   ·
    intro v26 lo hi w_ k_ hO hd _ _ hk_ _ hR hold
    have e6 : v26 6 = (Value.bool true) := hd 6 (by kernel_rfl)
    have e7 : v26 7 = u20 := hd 7 (by kernel_rfl)
    clear hd hold
    refine ⟨_, rfl, gd_on rfl rfl rfl (Nat.le_of_ble_eq_true rfl) e6 ?_⟩
    refine Does.mono (d_sliceS (xs := (encR (dataL la 24))) (ys := ((encR (dataL la 24)).drop 4)) (l := 4) (h := ((encR (dataL la 24)).length)) Try.underlying22 s_ti5 e7 (f21.step hO no_any) (Bd.some (l := 4) (k := .i64) rfl) Bd.none (by omega) (by omega) (by simp)) (fun u w' h => ⟨h.2 ▸ h.1, h.2 ▸ Only.refl _ _⟩)
   refine ls_cons ?_ ?_
   ·
    intro v26 lo hi w_ k_ hO hd _ _ hk_ _ hR hold
    have e6 : v26 6 = (Value.bool true) := hd 6 (by kernel_rfl)
    have d8 : Ps (Old W.heap.size) (Seq kB ((encR (dataL la 24)).drop 4) (v26 8)) w_ := hd 8 (by kernel_rfl)
    clear hd hold
    refine ⟨_, rfl, gd_on rfl rfl rfl (Nat.le_of_ble_eq_true rfl) e6 ?_⟩
    exact Does.is (d_str Try.underlying22 Try.underlying5 Try.underlying9 rfl d8)
   refine ls_cons ?_ ?_
   ·
    intro v26 lo hi w_ k_ hO hd _ _ hk_ _ hR hold
    have e6 : v26 6 = (Value.bool true) := hd 6 (by kernel_rfl)
    clear hd hold
    refine ⟨_, rfl, gd_on rfl rfl rfl (Nat.le_of_ble_eq_true rfl) e6 ?_⟩
    exact Does.is (d_move rfl)
   refine ls_cons ?_ ?_
   ·
    intro v26 lo hi w_ k_ hO hd _ _ hk_ _ hR hold
    have e10 : v26 10 = u15 := hd 10 (by kernel_rfl)
    have e6 : v26 6 = (Value.bool true) := hd 6 (by kernel_rfl)
    clear hd hold
    refine ⟨_, rfl, gd_on rfl rfl rfl (Nat.le_of_ble_eq_true rfl) e6 ?_⟩
    exact Does.is (d_str Try.underlying22 Try.underlying5 Try.underlying9 e10 (f16.step hO no_any))
   refine ls_cons ?_ ?_
   ·
    intro v26 lo hi w_ k_ hO hd _ _ hk_ _ hR hold
    have e11 : v26 11 = (Value.string (strOf (dataL la 24))) := hd 11 (by kernel_rfl)
    have e6 : v26 6 = (Value.bool true) := hd 6 (by kernel_rfl)
    have e9 : v26 9 = (Value.string (strOf ((encR (dataL la 24)).drop 4))) := hd 9 (by kernel_rfl)
    clear hd hold
    refine ⟨_, rfl, gd_on rfl rfl rfl (Nat.le_of_ble_eq_true rfl) e6 ?_⟩
    exact Does.is (d_seql (a := ((encR (dataL la 24)).drop 4)) (c := (dataL la 24)) e9 e11 (decide_eq_true (encR_drop (dataL_length la 24))))
   refine ls_cons ?_ ?_
   ·
    intro v26 lo hi w_ k_ hO hd _ _ hk_ _ hR hold
    have e12 : v26 12 = (Value.bool true) := hd 12 (by kernel_rfl)
    have e6 : v26 6 = (Value.bool true) := hd 6 (by kernel_rfl)
    clear hd hold
    refine ⟨_, rfl, gd rfl ?_⟩
    exact Does.is (d_pick (b := true) (v := (Value.bool true)) e6 e12)
   refine ls_cons ?_ ?_
   ·
    intro v26 lo hi w_ k_ hO hd _ _ hk_ _ hR hold
    have e13 : v26 13 = (Value.bool true) := hd 13 (by kernel_rfl)
    clear hd hold
    refine ⟨_, rfl, gd rfl ?_⟩
    exact Does.is (d_assign (v := (Value.bool true)) e13)
   exact ls_nil
  ·
   exact ms_nil
  intro v26 lo_ hi_ w27 o28 hd iv_ hR
  have e0 : v26 0 = u20 := hd 0 (by decide)
  have e2 : v26 2 = (Value.string (strOf (synR (encR (dataL la 24))))) := hd 2 (by decide)
  have e4 : v26 4 = (Value.string (strOf (List.replicate 8 0))) := hd 4 (by decide)
  have e5 : v26 5 = (Value.bool true) := hd 5 (by decide)
  have e6 : v26 6 = (Value.bool true) := hd 6 (by decide)
  have e7 : v26 7 = u20 := hd 7 (by decide)
  have e9 : v26 9 = (Value.string (strOf ((encR (dataL la 24)).drop 4))) := hd 9 (by decide)
  have e10 : v26 10 = u15 := hd 10 (by decide)
  have e11 : v26 11 = (Value.string (strOf (dataL la 24))) := hd 11 (by decide)
  have e12 : v26 12 = (Value.bool true) := hd 12 (by decide)
  have e13 : v26 13 = (Value.bool true) := hd 13 (by decide)
  have e14 : v26 14 = (Value.bool true) := hd 14 (by decide)
  have f_v26_1 : Ps (Old W.heap.size) (Seq kB (synR (encR (dataL la 24))) (v26 1)) w27 := hd 1 (by decide)
  have f_v26_3 : Ps (Old W.heap.size) (Seq kB (List.replicate 8 0) (v26 3)) w27 := hd 3 (by decide)
  have f_v26_8 : Ps (Old W.heap.size) (Seq kB ((encR (dataL la 24)).drop 4) (v26 8)) w27 := hd 8 (by decide)
  clear hd iv_ lo_ hi_
  refine fr_eq (l' := ([(zf25 0), (zf25 1), (zf25 2), (zf25 3), (Value.bool true), u15, u20] ++ (zs zf25 7 30 ++ [(Value.bool false), u20, (v26 1), (Value.string (strOf (synR (encR (dataL la 24))))), (v26 3), (Value.string (strOf (List.replicate 8 0))), (Value.bool true), (Value.bool true), u20, (v26 8), (Value.string (strOf ((encR (dataL la 24)).drop 4))), u15, (Value.string (strOf (dataL la 24))), (Value.bool true), (Value.bool true)]))) (by rw [e0, e2, e4, e5, e6, e7, e9, e10, e11, e12, e13, e14] <;> rfl) ?_
  clear e0 e2 e4 e5 e6 e7 e9 e10 e11 e12 e13 e14
  replace h1 := h1.step o28 no_any
  replace h2 := h2.step o28 no_any
  replace f16 := f16.step o28 no_any
  replace f21 := f21.step o28 no_any
  replace f_v22_3 := f_v22_3.step o28 no_any
  replace f_v22_8 := f_v22_8.step o28 no_any
  replace f_v22_11 := f_v22_11.step o28 no_any
  replace f_v22_16 := f_v22_16.step o28 no_any
  replace f_v22_18 := f_v22_18.step o28 no_any
  clear hR
  replace oW := oW.tail o28 tl_no
  refine then_n ?_
  refine forget (fun zf29 => ([(zf29 0), (zf29 1), (zf29 2), (zf29 3), (Value.bool true)] ++ (zs zf29 5 47))) (by kernel_rfl) (fun zf29 => ?_)
  refine wpIn_ret ?_
  refine leave0 (v := (Value.bool true)) (res1 Try.results5 rfl) ?_
  exact ⟨rfl, oW⟩

end Go.Proofs.YtkppgdbpadaegaaF
