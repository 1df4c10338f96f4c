import Derived.Test.YtkppgdbpadaegaaFl
import Derived.Test.YtkppgdbpadaegaaTy
import Derived.Test.YtkppgdbpadaegaaHutil
import Derived.Test.YtkppgdbpadaegaaMj
import Derived.Test.YtkppgdbpadaegaaHref4
set_option linter.unusedVariables false
set_option linter.unusedSimpArgs false
namespace Go.Proofs.YtkppgdbpadaegaaF
open Go Go.Shelf Go.Proofs.YtkppgdbpadaegaaS Ram
set_option maxRecDepth 20000 in
set_option maxHeartbeats 1000000 in
theorem bchSyndromes_law (la : List UInt8) (ll : List Int) (lr : List UInt8) (u1 u2 u3 : Value) (W : World) (h1 : Ps No (Seq kB la u1) W) (h2 : Ps No (Seq kI ll u2) W) (h3 : Ps No (Seq kB lr u3) W) (g1 : la.length ≤ 140737488351232) (g2 : ll.length ≤ 140737488351232) (g3 : lr.length ≤ 140737488351232) :
    CW Try.prog 6 #[u1, u2, u3] W (Rt (RIs (.bool true) W)) := by
 have oW : Only No W W := Only.refl _ _
 refine enter (al := [u1, u2, u3]) (k := 74) (l := ([u1, u2, u3] ++ (us 74))) Try.func6 rfl Try.ntmps6 rfl rfl ?_
 refine wpIn_seq ?_
 refine plain ?_
 refine wpL.is rfl (d_assign rfl) ?_
 refine wpL.flat ([u1, u2, u3, undef, undef, undef, (Value.bool false)] ++ (us 70)) (by kernel_rfl) ?_
 refine wpL.done ?_
 refine then_n ?_
 refine wpIn_seq ?_
 refine wpIn_seq ?_
 refine plain ?_
 refine wpL.op rfl (d_call (xl := []) (al := []) Try.func13 (by kernel_rfl) rfl rfl rfl (l4known_ok _)) ?_
 rintro _ w11 ⟨rfl, o12⟩
 replace h1 := h1.step0 o12
 replace h2 := h2.step0 o12
 replace h3 := h3.step0 o12
 replace oW := oW.tail0 o12
 refine wpL.is rfl (d_not rfl rfl) ?_
 refine wpL.flat ([u1, u2, u3, undef, undef, undef, (Value.bool false)] ++ (us 5 ++ [(Value.bool true), (Value.bool false)] ++ (us 63))) (by kernel_rfl) ?_
 refine wpL.done ?_
 refine then_n ?_
 refine cond_f rfl ?_
 refine wpIn_skip ?_
 refine then_n ?_
 refine wpIn_seq ?_
 refine wpIn_seq ?_
 refine plain ?_
 refine wpL.is rfl (d_move rfl) ?_
 refine wpL.is rfl (d_lenS rfl Try.underlying22 rfl h3) ?_
 refine wpL.is rfl (n_gtr (a := lr.length) (b := 40) rfl rfl rfl) ?_
 refine wpL.flat ([u1, u2, u3, undef, undef, undef, (Value.bool false)] ++ (us 5 ++ [(Value.bool true), (Value.bool false), u3, (eN lr.length), (Value.bool (decide (40 < lr.length)))] ++ (us 60))) (by kernel_rfl) ?_
 refine wpL.done ?_
 refine then_n ?_
 refine cond_if rfl (fun k1 => ?_) (fun k1 => ?_)
 ·
  refine wpIn_seq ?_
  refine plain ?_
  refine wpL.is rfl (d_assign rfl) ?_
  refine wpL.flat ([u1, u2, u3, undef, undef, undef, (Value.bool true)] ++ (us 5 ++ [(Value.bool true), (Value.bool false), u3, (eN lr.length), (Value.bool (decide (40 < lr.length)))] ++ (us 60))) (by kernel_rfl) ?_
  refine wpL.done ?_
  refine then_n ?_
  refine forget (fun zf13 => (zs zf13 0 6 ++ [(Value.bool true), (zf13 7), (zf13 8), (zf13 9), undef, undef] ++ (zs zf13 12 65))) (by kernel_rfl) (fun zf13 => ?_)
  refine wpIn_ret ?_
  refine then_r ?_
  refine leave0 (v := (Value.bool true)) (res1 Try.results6 rfl) ?_
  exact ⟨rfl, oW⟩
 ·
  refine wpIn_skip ?_
  refine then_n ?_
  refine wpIn_seq ?_
  refine plain ?_
  refine wpL.is rfl (d_move rfl) ?_
  refine wpL.op rfl (d_call (xl := [.tmp 17, .const (.int .i64 24)]) (al := [u1, (eN 24)]) Try.func14 (by kernel_rfl) rfl rfl rfl (l4Data_ok la 24 u1 _ (Ps.no h1) (by omega))) ?_
  rintro u16 w14 f17
  replace f17 := f17.ps
  obtain ⟨f17, o15⟩ := f17
  replace f17 := f17.less (Y := (Old W.heap.size)) (old_old oW.size)
  replace h1 := h1.step0 o15
  replace h2 := h2.step0 o15
  replace h3 := h3.step0 o15
  replace oW := oW.tail0 o15
  refine wpL.op rfl (d_call (xl := [.tmp 18]) (al := [u16]) Try.func22 (by kernel_rfl) rfl rfl rfl (ref4Enc_ok (dataL la 24) u16 _ (Ps.no f17) (by have := dataL_length la 24; first | omega | (simp; done) | (simp; omega)))) ?_
  rintro u20 w18 f21
  replace f21 := f21.ps
  obtain ⟨f21, o19⟩ := f21
  replace f21 := f21.less (Y := (Old W.heap.size)) (old_old oW.size)
  replace h1 := h1.step0 o19
  replace h2 := h2.step0 o19
  replace h3 := h3.step0 o19
  replace f17 := f17.step0 o19
  replace oW := oW.tail0 o19
  refine wpL.flat ([u1, u2, u3, undef, undef, undef, (Value.bool false)] ++ (us 5 ++ [(Value.bool true), (Value.bool false), u3, (eN lr.length), (Value.bool (decide (40 < lr.length))), u1, u16, u20] ++ (us 57))) (by kernel_rfl) ?_
  refine wpL.is rfl (d_move rfl) ?_
  refine wpL.op rfl (d_call (xl := [.tmp 20, .const (.int .i64 224), .const (.int .i64 12)]) (al := [u2, (eN 224), (eN 12)]) Try.func25 (by kernel_rfl) rfl rfl rfl (l4Places_ok ll 224 12 u2 _ (Ps.no h2) (by omega) (by omega) (by omega) (by omega))) ?_
  rintro u24 w22 f25
  replace f25 := f25.ps
  obtain ⟨f25, o23⟩ := f25
  replace f25 := f25.less (Y := (Old W.heap.size)) (old_old oW.size)
  replace h1 := h1.step0 o23
  replace h2 := h2.step0 o23
  replace h3 := h3.step0 o23
  replace f17 := f17.step0 o23
  replace f21 := f21.step0 o23
  replace oW := oW.tail0 o23
  refine wpL.op rfl (d_call (xl := [.tmp 19, .tmp 21]) (al := [u20, u24]) Try.func24 (by kernel_rfl) rfl rfl rfl (ref6Flip_ok (encR (dataL la 24)) (placesL ll 224 12) u20 u24 _ (Ps.no f21) (Ps.no f25) (by have := dataL_length la 24; have := encR_len (dataL la 24); first | omega | (simp; done) | (simp; omega)) (by have := places_le ll 224 12; first | omega | (simp; done) | (simp; omega)) (in_place (encR_length (dataL_length _ _)) _ _))) ?_
  rintro u28 w26 f29
  replace f29 := f29.ps
  obtain ⟨f29, o27⟩ := f29
  replace f29 := f29.less (Y := (Old W.heap.size)) (old_old oW.size)
  replace h1 := h1.step0 o27
  replace h2 := h2.step0 o27
  replace h3 := h3.step0 o27
  replace f17 := f17.step0 o27
  replace f21 := f21.step0 o27
  replace f25 := f25.step0 o27
  replace oW := oW.tail0 o27
  refine wpL.flat ([u1, u2, u3, undef, undef, undef, (Value.bool false)] ++ (us 5 ++ [(Value.bool true), (Value.bool false), u3, (eN lr.length), (Value.bool (decide (40 < lr.length))), u1, u16, u20, u2, u24, u28] ++ (us 54))) (by kernel_rfl) ?_
  refine wpL.is rfl (d_assign rfl) ?_
  refine wpL.flat ([u1, u2, u3, undef, undef, undef, (Value.bool false), u28, undef, undef, undef, undef, (Value.bool true), (Value.bool false), u3, (eN lr.length), (Value.bool (decide (40 < lr.length))), u1, u16, u20, u2, u24, u28] ++ (us 54)) (by kernel_rfl) ?_
  refine wpL.done ?_
  have hw_ : (flipL (encR (dataL la 24)) (placesL ll 224 12)).length = 28 := by rw [flipL_length]; exact encR_length (dataL_length la 24)
  refine then_n ?_
  refine forget (fun zf30 => ([(zf30 0), (zf30 1), u3, (zf30 3), (zf30 4), (zf30 5), (zf30 6), u28, (zf30 8), (zf30 9), undef, undef] ++ (zs zf30 12 13 ++ (us 19 ++ (zs zf30 44 23 ++ (us 9 ++ [(zf30 76)])))))) (by kernel_rfl) (fun zf30 => ?_)
  refine wpIn_seq ?_
  refine plain ?_
  refine wpL.is rfl (d_move rfl) ?_
  refine wpL.op rfl (d_call (xl := [.tmp 23]) (al := [u28]) Try.func23 (by kernel_rfl) rfl rfl rfl (bchSyn_ok (flipL (encR (dataL la 24)) (placesL ll 224 12)) u28 _ (Ps.no f29) (by have := flipL_length (encR (dataL la 24)) (placesL ll 224 12); have := places_le ll 224 12; have := dataL_length la 24; have := encR_len (dataL la 24); first | omega | (simp; done) | (simp; omega)))) ?_
  rintro u33 w31 f34
  replace f34 := f34.ps
  obtain ⟨f34, o32⟩ := f34
  replace f34 := f34.less (Y := (Old W.heap.size)) (old_old oW.size)
  replace h1 := h1.step0 o32
  replace h2 := h2.step0 o32
  replace h3 := h3.step0 o32
  replace f17 := f17.step0 o32
  replace f21 := f21.step0 o32
  replace f25 := f25.step0 o32
  replace f29 := f29.step0 o32
  replace oW := oW.tail0 o32
  refine wpL.is rfl (d_assign rfl) ?_
  refine wpL.flat ([(zf30 0), (zf30 1), u3, (zf30 3), (zf30 4), (zf30 5), (zf30 6), u28, u33, (zf30 9), undef, undef] ++ (zs zf30 12 11 ++ [u28, u33] ++ (us 19 ++ (zs zf30 44 23 ++ (us 9 ++ [(zf30 76)]))))) (by kernel_rfl) ?_
  refine wpL.done ?_
  refine then_n ?_
  refine wpIn_seq ?_
  refine wpIn_seq ?_
  refine drawn' (O := No) (n := 20) [0, 1, 0, 4, 12, 31, 63, 127, 255, 511, 127, 1535, 3583, 8191, 16383, 32767, 65535, 131071, 262143, 524287] [(0, 25), (1, 26), (2, 27), (3, 28), (4, 29), (5, 30), (6, 31), (7, 32), (8, 33), (9, 34), (10, 35), (11, 36), (12, 37), (13, 38), (14, 39), (15, 40), (16, 41), (17, 42), (18, 43), (19, 44)] [0, 1, 2, 3, 4, 5, 6, 7, 8, 9, 10, 11, 12, 13, 14, 15, 16, 17, 18, 19] [] (fun i_ => ([RF.is No u33, RF.is No (Value.string (strOf (synR (flipL (encR (dataL la 24)) (placesL ll 224 12))))), RF.is No u28, RF.ps No (Old W.heap.size) (Seq kB (synR (flipL (encR (dataL la 24)) (placesL ll 224 12)))) no_any, RF.is No (Value.string (strOf (synR (flipL (encR (dataL la 24)) (placesL ll 224 12))))), RF.is No (Value.bool false), RF.is No (Value.bool false), RF.is No u3, RF.ps No (Old W.heap.size) (Seq kB (synR lr)) no_any, RF.is No (Value.string (strOf (synR lr))), RF.is No u3, RF.ps No (Old W.heap.size) (Seq kB (synR lr)) no_any, RF.is No (Value.string (strOf (synR lr))), RF.is No (Value.bool false), RF.is No (Value.bool false), RF.is No (Value.bool false), RF.is No u33, RF.is No (eN ((synR (flipL (encR (dataL la 24)) (placesL ll 224 12))).length)), RF.is No (Value.bool false), RF.is No (Value.bool false)] : List (RF No)).getD i_ (RF.any No)) (fun _ w_ => True) (fun v35 => ([(zf30 0), (zf30 1), u3, (zf30 3), (zf30 4), (zf30 5), (zf30 6), u28, u33, (zf30 9), undef, undef] ++ (zs zf30 12 11 ++ [u28, u33, (v35 0), (v35 1), (v35 2), (v35 3), (v35 4), (v35 5), (v35 6), (v35 7), (v35 8), (v35 9), (v35 10), (v35 11), (v35 12), (v35 13), (v35 14), (v35 15), (v35 16), (v35 17), (v35 18), (v35 19)] ++ (zs zf30 45 22 ++ (us 9 ++ [(zf30 76)]))))) s_mx (by kernel_rfl) rfl (by kernel_rfl) (by rfl) (fun v_ => by kernel_rfl) (fun _ => fun _ _ _ _ => trivial) trivial ?_ ?_ ?_
  ·
   refine ls_cons ?_ ?_
   ·
    intro v35 lo hi w_ k_ hO hd _ _ hk_ _ hR hold
    clear hd hold
    refine ⟨_, rfl, gd rfl ?_⟩
    exact Does.is (d_move rfl)
   refine ls_cons ?_ ?_
   ·
    intro v35 lo hi w_ k_ hO hd _ _ hk_ _ hR hold
    have e0 : v35 0 = u33 := hd 0 (by kernel_rfl)
    clear hd hold
    refine ⟨_, rfl, gd rfl ?_⟩
    exact Does.is (d_str Try.underlying22 Try.underlying5 Try.underlying9 e0 (f34.step hO no_any))
   refine ls_cons ?_ ?_
   ·
    intro v35 lo hi w_ k_ hO hd _ _ hk_ _ hR hold
    clear hd hold
    refine ⟨_, rfl, gd rfl ?_⟩
    exact Does.is (d_move rfl)
   refine ls_cons ?_ ?_
   ·
    intro v35 lo hi w_ k_ hO hd _ _ hk_ _ hR hold
    have e2 : v35 2 = u28 := hd 2 (by kernel_rfl)
    clear hd hold
    refine ⟨_, rfl, gd rfl ?_⟩
    refine Does.mono (R := ROw 5 eB (synR (flipL (encR (dataL la 24)) (placesL ll 224 12))) w_) ?_ (fun u w' h => ⟨(h.ps).1.less (old_old (Nat.le_trans oW.size hO.size)), (h.ps).2⟩)
    exact d_call (xl := [.tmp 27]) (al := [u28]) Try.func26 (by kernel_rfl) rfl (show ([(v35 2)] : List Value) = [u28] from by rw [e2]) rfl (ref4Syn_ok (flipL (encR (dataL la 24)) (placesL ll 224 12)) u28 _ (Ps.no (f29.step hO no_any)) (by have := flipL_length (encR (dataL la 24)) (placesL ll 224 12); have := places_le ll 224 12; have := dataL_length la 24; have := encR_len (dataL la 24); first | omega | (simp; done) | (simp; omega)))
   refine ls_cons ?_ ?_
   ·
    intro v35 lo hi w_ k_ hO hd _ _ hk_ _ hR hold
    have d3 : Ps (Old W.heap.size) (Seq kB (synR (flipL (encR (dataL la 24)) (placesL ll 224 12))) (v35 3)) w_ := hd 3 (by kernel_rfl)
    clear hd hold
    refine ⟨_, rfl, gd rfl ?_⟩
    exact Does.is (d_str Try.underlying22 Try.underlying5 Try.underlying9 rfl d3)
   refine ls_cons ?_ ?_
   ·
    intro v35 lo hi w_ k_ hO hd _ _ hk_ _ hR hold
    have e1 : v35 1 = (Value.string (strOf (synR (flipL (encR (dataL la 24)) (placesL ll 224 12))))) := hd 1 (by kernel_rfl)
    have e4 : v35 4 = (Value.string (strOf (synR (flipL (encR (dataL la 24)) (placesL ll 224 12))))) := hd 4 (by kernel_rfl)
    clear hd hold
    refine ⟨_, rfl, gd rfl ?_⟩
    exact Does.is (d_sneq (a := (synR (flipL (encR (dataL la 24)) (placesL ll 224 12)))) (c := (synR (flipL (encR (dataL la 24)) (placesL ll 224 12)))) e1 e4 (by rw [decide_eq_true rfl] <;> rfl))
   refine ls_cons ?_ ?_
   ·
    intro v35 lo hi w_ k_ hO hd _ _ hk_ _ hR hold
    have e5 : v35 5 = (Value.bool false) := hd 5 (by kernel_rfl)
    clear hd hold
    refine ⟨_, rfl, gd rfl ?_⟩
    exact Does.is (d_move (v := (Value.bool false)) e5)
   refine ls_cons ?_ ?_
   ·
    intro v35 lo hi w_ k_ hO hd _ _ hk_ _ hR hold
    have e6 : v35 6 = (Value.bool false) := hd 6 (by kernel_rfl)
    clear hd hold
    refine ⟨_, rfl, gd_on rfl rfl rfl (Nat.le_of_ble_eq_true rfl) e6 ?_⟩
    exact Does.is (d_move rfl)
   refine ls_cons ?_ ?_
   ·
    intro v35 lo hi w_ k_ hO hd _ _ hk_ _ hR hold
    have e6 : v35 6 = (Value.bool false) := hd 6 (by kernel_rfl)
    have e7 : v35 7 = u3 := hd 7 (by kernel_rfl)
    clear hd hold
    refine ⟨_, rfl, gd_on rfl rfl rfl (Nat.le_of_ble_eq_true rfl) e6 ?_⟩
    refine Does.mono (R := ROw 5 eB (synR lr) w_) ?_ (fun u w' h => ⟨(h.ps).1.less (old_old (Nat.le_trans oW.size hO.size)), (h.ps).2⟩)
    exact d_call (xl := [.tmp 32]) (al := [u3]) Try.func23 (by kernel_rfl) rfl (show ([(v35 7)] : List Value) = [u3] from by rw [e7]) rfl (bchSyn_ok lr u3 _ (Ps.no (h3.step hO no_any)) (by first | omega | (simp; done) | (simp; omega)))
   refine ls_cons ?_ ?_
   ·
    intro v35 lo hi w_ k_ hO hd _ _ hk_ _ hR hold
    have e6 : v35 6 = (Value.bool false) := hd 6 (by kernel_rfl)
    have d8 : Ps (Old W.heap.size) (Seq kB (synR lr) (v35 8)) w_ := hd 8 (by kernel_rfl)
    clear hd hold
    refine ⟨_, rfl, gd_on rfl rfl rfl (Nat.le_of_ble_eq_true rfl) e6 ?_⟩
    exact Does.is (d_str Try.underlying22 Try.underlying5 Try.underlying9 rfl d8)
   refine ls_cons ?_ ?_
   ·
    intro v35 lo hi w_ k_ hO hd _ _ hk_ _ hR hold
    have e6 : v35 6 = (Value.bool false) := hd 6 (by kernel_rfl)
    clear hd hold
    refine ⟨_, rfl, gd_on rfl rfl rfl (Nat.le_of_ble_eq_true rfl) e6 ?_⟩
    exact Does.is (d_move rfl)
   refine ls_cons ?_ ?_
   ·
    intro v35 lo hi w_ k_ hO hd _ _ hk_ _ hR hold
    have e10 : v35 10 = u3 := hd 10 (by kernel_rfl)
    have e6 : v35 6 = (Value.bool false) := hd 6 (by kernel_rfl)
    clear hd hold
    refine ⟨_, rfl, gd_on rfl rfl rfl (Nat.le_of_ble_eq_true rfl) e6 ?_⟩
    refine Does.mono (R := ROw 5 eB (synR lr) w_) ?_ (fun u w' h => ⟨(h.ps).1.less (old_old (Nat.le_trans oW.size hO.size)), (h.ps).2⟩)
    exact d_call (xl := [.tmp 35]) (al := [u3]) Try.func26 (by kernel_rfl) rfl (show ([(v35 10)] : List Value) = [u3] from by rw [e10]) rfl (ref4Syn_ok lr u3 _ (Ps.no (h3.step hO no_any)) (by first | omega | (simp; done) | (simp; omega)))
   refine ls_cons ?_ ?_
   ·
    intro v35 lo hi w_ k_ hO hd _ _ hk_ _ hR hold
    have d11 : Ps (Old W.heap.size) (Seq kB (synR lr) (v35 11)) w_ := hd 11 (by kernel_rfl)
    have e6 : v35 6 = (Value.bool false) := hd 6 (by kernel_rfl)
    clear hd hold
    refine ⟨_, rfl, gd_on rfl rfl rfl (Nat.le_of_ble_eq_true rfl) e6 ?_⟩
    exact Does.is (d_str Try.underlying22 Try.underlying5 Try.underlying9 rfl d11)
   refine ls_cons ?_ ?_
   ·
    intro v35 lo hi w_ k_ hO hd _ _ hk_ _ hR hold
    have e12 : v35 12 = (Value.string (strOf (synR lr))) := hd 12 (by kernel_rfl)
    have e6 : v35 6 = (Value.bool false) := hd 6 (by kernel_rfl)
    have e9 : v35 9 = (Value.string (strOf (synR lr))) := hd 9 (by kernel_rfl)
    clear hd hold
    refine ⟨_, rfl, gd_on rfl rfl rfl (Nat.le_of_ble_eq_true rfl) e6 ?_⟩
    exact Does.is (d_sneq (a := (synR lr)) (c := (synR lr)) e9 e12 (by rw [decide_eq_true rfl] <;> rfl))
   refine ls_cons ?_ ?_
   ·
    intro v35 lo hi w_ k_ hO hd _ _ hk_ _ hR hold
    have e13 : v35 13 = (Value.bool false) := hd 13 (by kernel_rfl)
    have e6 : v35 6 = (Value.bool false) := hd 6 (by kernel_rfl)
    clear hd hold
    refine ⟨_, rfl, gd rfl ?_⟩
    exact Does.is (d_pick (b := false) (v := (Value.bool false)) e6 e13)
   refine ls_cons ?_ ?_
   ·
    intro v35 lo hi w_ k_ hO hd _ _ hk_ _ hR hold
    have e14 : v35 14 = (Value.bool false) := hd 14 (by kernel_rfl)
    clear hd hold
    refine ⟨_, rfl, gd rfl ?_⟩
    exact Does.is (d_move (v := (Value.bool false)) e14)
   refine ls_cons ?_ ?_
   ·
    intro v35 lo hi w_ k_ hO hd _ _ hk_ _ hR hold
    have e15 : v35 15 = (Value.bool false) := hd 15 (by kernel_rfl)
    clear hd hold
    refine ⟨_, rfl, gd_on rfl rfl rfl (Nat.le_of_ble_eq_true rfl) e15 ?_⟩
    exact Does.is (d_move rfl)
   refine ls_cons ?_ ?_
   ·
    intro v35 lo hi w_ k_ hO hd _ _ hk_ _ hR hold
    have e15 : v35 15 = (Value.bool false) := hd 15 (by kernel_rfl)
    have e16 : v35 16 = u33 := hd 16 (by kernel_rfl)
    clear hd hold
    refine ⟨_, rfl, gd_on rfl rfl rfl (Nat.le_of_ble_eq_true rfl) e15 ?_⟩
    exact Does.is (d_lenS rfl Try.underlying22 e16 (f34.step hO no_any))
   refine ls_cons ?_ ?_
   ·
    intro v35 lo hi w_ k_ hO hd _ _ hk_ _ hR hold
    have e15 : v35 15 = (Value.bool false) := hd 15 (by kernel_rfl)
    have e17 : v35 17 = (eN ((synR (flipL (encR (dataL la 24)) (placesL ll 224 12))).length)) := hd 17 (by kernel_rfl)
    clear hd hold
    refine ⟨_, rfl, gd_on rfl rfl rfl (Nat.le_of_ble_eq_true rfl) e15 ?_⟩
    exact Does.is (n_neq (a := ((synR (flipL (encR (dataL la 24)) (placesL ll 224 12))).length)) (b := 8) e17 rfl (by rw [decide_eq_true ((synR_iff _).2 hw_)] <;> rfl))
   refine ls_cons ?_ ?_
   ·
    intro v35 lo hi w_ k_ hO hd _ _ hk_ _ hR hold
    have e15 : v35 15 = (Value.bool false) := hd 15 (by kernel_rfl)
    have e18 : v35 18 = (Value.bool false) := hd 18 (by kernel_rfl)
    clear hd hold
    refine ⟨_, rfl, gd rfl ?_⟩
    exact Does.is (d_pick (b := false) (v := (Value.bool false)) e15 e18)
   exact ls_nil
  ·
   exact ms_nil
  intro v35 lo_ hi_ w36 o37 hd iv_ hR
  have e0 : v35 0 = u33 := hd 0 (by decide)
  have e1 : v35 1 = (Value.string (strOf (synR (flipL (encR (dataL la 24)) (placesL ll 224 12))))) := hd 1 (by decide)
  have e2 : v35 2 = u28 := hd 2 (by decide)
  have e4 : v35 4 = (Value.string (strOf (synR (flipL (encR (dataL la 24)) (placesL ll 224 12))))) := hd 4 (by decide)
  have e5 : v35 5 = (Value.bool false) := hd 5 (by decide)
  have e6 : v35 6 = (Value.bool false) := hd 6 (by decide)
  have e7 : v35 7 = u3 := hd 7 (by decide)
  have e9 : v35 9 = (Value.string (strOf (synR lr))) := hd 9 (by decide)
  have e10 : v35 10 = u3 := hd 10 (by decide)
  have e12 : v35 12 = (Value.string (strOf (synR lr))) := hd 12 (by decide)
  have e13 : v35 13 = (Value.bool false) := hd 13 (by decide)
  have e14 : v35 14 = (Value.bool false) := hd 14 (by decide)
  have e15 : v35 15 = (Value.bool false) := hd 15 (by decide)
  have e16 : v35 16 = u33 := hd 16 (by decide)
  have e17 : v35 17 = (eN ((synR (flipL (encR (dataL la 24)) (placesL ll 224 12))).length)) := hd 17 (by decide)
  have e18 : v35 18 = (Value.bool false) := hd 18 (by decide)
  have e19 : v35 19 = (Value.bool false) := hd 19 (by decide)
  have f_v35_3 : Ps (Old W.heap.size) (Seq kB (synR (flipL (encR (dataL la 24)) (placesL ll 224 12))) (v35 3)) w36 := hd 3 (by decide)
  have f_v35_8 : Ps (Old W.heap.size) (Seq kB (synR lr) (v35 8)) w36 := hd 8 (by decide)
  have f_v35_11 : Ps (Old W.heap.size) (Seq kB (synR lr) (v35 11)) w36 := hd 11 (by decide)
  clear hd iv_ lo_ hi_
  refine fr_eq (l' := ([(zf30 0), (zf30 1), u3, (zf30 3), (zf30 4), (zf30 5), (zf30 6), u28, u33, (zf30 9), undef, undef] ++ (zs zf30 12 11 ++ [u28, u33, u33, (Value.string (strOf (synR (flipL (encR (dataL la 24)) (placesL ll 224 12))))), u28, (v35 3), (Value.string (strOf (synR (flipL (encR (dataL la 24)) (placesL ll 224 12))))), (Value.bool false), (Value.bool false), u3, (v35 8), (Value.string (strOf (synR lr))), u3, (v35 11), (Value.string (strOf (synR lr))), (Value.bool false), (Value.bool false), (Value.bool false), u33, (eN ((synR (flipL (encR (dataL la 24)) (placesL ll 224 12))).length)), (Value.bool false), (Value.bool false)] ++ (zs zf30 45 22 ++ (us 9 ++ [(zf30 76)]))))) (by rw [e0, e1, e2, e4, e5, e6, e7, e9, e10, e12, e13, e14, e15, e16, e17, e18, e19] <;> rfl) ?_
  clear e0 e1 e2 e4 e5 e6 e7 e9 e10 e12 e13 e14 e15 e16 e17 e18 e19
  replace h1 := h1.step o37 no_any
  replace h2 := h2.step o37 no_any
  replace h3 := h3.step o37 no_any
  replace f17 := f17.step o37 no_any
  replace f21 := f21.step o37 no_any
  replace f25 := f25.step o37 no_any
  replace f29 := f29.step o37 no_any
  replace f34 := f34.step o37 no_any
  clear hR
  replace oW := oW.tail o37 tl_no
  refine then_n ?_
  refine forget (fun zf38 => (zs zf38 0 7 ++ [u28, u33, (zf38 9), undef, undef] ++ (zs zf38 12 32 ++ [(Value.bool false)] ++ (zs zf38 45 22 ++ (us 9 ++ [(zf38 76)]))))) (by kernel_rfl) (fun zf38 => ?_)
  refine cond_f rfl ?_
  refine wpIn_skip ?_
  refine then_n ?_
  refine wpIn_seq ?_
  refine plain ?_
  refine wpL.op rfl (d_make1 (n := 224) Try.underlying22 s_ti5 rfl rfl (by omega) (by omega) rfl) ?_
  rintro _ w39 ⟨p, rfl, g40, a41, o42⟩
  replace a41 : Arr 5 p ((List.replicate 224 0).map eB) w39 := by rw [List.map_replicate]; exact a41
  have l_p : (List.replicate 224 0 : List UInt8).length = 224 := by simp
  have g_oW_p : W.heap.size ≤ p := Nat.le_trans oW.size g40
  replace h1 := h1.new o42 g40
  replace h2 := h2.new o42 g40
  replace h3 := h3.new o42 g40
  replace f17 := f17.new o42 g40
  replace f21 := f21.new o42 g40
  replace f25 := f25.new o42 g40
  replace f29 := f29.new o42 g40
  replace f34 := f34.new o42 g40
  replace f_v35_3 := f_v35_3.new o42 g40
  replace f_v35_8 := f_v35_8.new o42 g40
  replace f_v35_11 := f_v35_11.new o42 g40
  replace oW := oW.tail0 o42
  refine wpL.is rfl (d_assign rfl) ?_
  refine wpL.flat (zs zf38 0 7 ++ [u28, u33, (sli p 0 224 224), undef, undef] ++ (zs zf38 12 32 ++ [(Value.bool false), (sli p 0 224 224)] ++ (zs zf38 46 21 ++ (us 9 ++ [(zf38 76)])))) (by kernel_rfl) ?_
  refine wpL.done ?_
  refine then_n ?_
  refine wpIn_seq ?_
  refine wpIn_seq ?_
  refine plain ?_
  refine wpL.is rfl (d_assign rfl) ?_
  refine wpL.flat (zs zf38 0 7 ++ [u28, u33, (sli p 0 224 224), (eN 0), undef] ++ (zs zf38 12 32 ++ [(Value.bool false), (sli p 0 224 224)] ++ (zs zf38 46 21 ++ (us 9 ++ [(zf38 76)])))) (by kernel_rfl) ?_
  refine wpL.done ?_
  refine then_n ?_
  refine wpIn_block ?_
  refine loop2 (fun (k : (Nat)) => fun (z : Nat → Value) => ((zs zf38 0 7 ++ [u28, u33, (sli p 0 224 224), (eN k), undef] ++ (zs zf38 12 32 ++ [(Value.bool false), (sli p 0 224 224)] ++ (zs z 46 17 ++ [(zf38 63), (zf38 64), (zf38 65), (zf38 66)] ++ (us 9 ++ [(zf38 76)])))) : List Value)) (fun (k : (Nat)) => fun (w_ : World) => (k ≤ 224) ∧ Only (Or1 p No) w39 w_ ∧ (btTo (flipL (encR (dataL la 24)) (placesL ll 224 12)) k).length = 224 ∧ Arr 5 p ((btTo (flipL (encR (dataL la 24)) (placesL ll 224 12)) k).map eB) w_) (fun (k : (Nat)) => 224 - k) 0 rfl ?_ ?_
  ·
   refine ⟨?_, ?_, ?_, ?_⟩
   ·
    (try dsimp only)
    all_goals (omega)
   ·
    (try dsimp only)
    all_goals (exact Only.refl _ _)
   ·
    (try dsimp only)
    all_goals (exact btTo_length _ 0)
   ·
    (try dsimp only)
    all_goals (rw [← btTo_zero (flipL (encR (dataL la 24)) (placesL ll 224 12))]; exact a41)
  ·
   rintro k z w44 ⟨hk, o43, l_p, a41⟩
   (try dsimp only)
   replace h1 := h1.step o43 (or1_mono no_any)
   replace h2 := h2.step o43 (or1_mono no_any)
   replace h3 := h3.step o43 (or1_mono no_any)
   replace f17 := f17.step o43 (or1_mono no_any)
   replace f21 := f21.step o43 (or1_mono no_any)
   replace f25 := f25.step o43 (or1_mono no_any)
   replace f29 := f29.step o43 (or1_mono no_any)
   replace f34 := f34.step o43 (or1_mono no_any)
   replace f_v35_3 := f_v35_3.step o43 (or1_mono no_any)
   replace f_v35_8 := f_v35_8.step o43 (or1_mono no_any)
   replace f_v35_11 := f_v35_11.step o43 (or1_mono no_any)
   replace oW := oW.tail o43 (tl_new g_oW_p tl_no)
   refine wpIn_seq ?_
   refine wpIn_seq ?_
   refine plain ?_
   refine wpL.is rfl (d_move rfl) ?_
   refine wpL.is rfl (n_lss (a := k) (b := 224) rfl rfl rfl) ?_
   refine wpL.flat (zs zf38 0 7 ++ [u28, u33, (sli p 0 224 224), (eN k), undef] ++ (zs zf38 12 32 ++ [(Value.bool false), (sli p 0 224 224), (eN k), (Value.bool (decide (k < 224)))] ++ (zs z 48 15 ++ [(zf38 63), (zf38 64), (zf38 65), (zf38 66)] ++ (us 9 ++ [(zf38 76)])))) (by kernel_rfl) ?_
   refine wpL.done ?_
   refine then_n ?_
   refine cond_if rfl (fun c0 => ?_) (fun c0 => ?_)
   ·
    refine wpIn_skip ?_
    refine then_n ?_
    refine wpIn_seq ?_
    refine wpIn_block ?_
    refine plain ?_
    refine wpL.is rfl (d_move rfl) ?_
    refine wpL.is rfl (d_move rfl) ?_
    refine wpL.is rfl (d_move rfl) ?_
    refine wpL.flat (zs zf38 0 7 ++ [u28, u33, (sli p 0 224 224), (eN k), undef] ++ (zs zf38 12 32 ++ [(Value.bool false), (sli p 0 224 224), (eN k), (Value.bool (decide (k < 224))), (z 48), (z 49), (sli p 0 224 224), (eN k), u28] ++ (zs z 53 10 ++ [(zf38 63), (zf38 64), (zf38 65), (zf38 66)] ++ (us 9 ++ [(zf38 76)])))) (by kernel_rfl) ?_
    refine wpL.is rfl (d_move rfl) ?_
    refine wpL.is rfl (n_quo (a := k) (b := 8) rfl rfl (by decide) (by omega)) ?_
    refine wpL.is rfl (d_ix (i := (k / 8)) (xs := (flipL (encR (dataL la 24)) (placesL ll 224 12))) Try.underlying22 s_ti5 rfl f29 (show _ = Value.int _ ((k / 8 : Nat) : Int) from rfl) (by have := flipL_length (encR (dataL la 24)) (placesL ll 224 12); have := places_le ll 224 12; have := dataL_length la 24; have := encR_len (dataL la 24); first | omega | (simp; done) | (simp; omega))) ?_
    refine wpL.flat (zs zf38 0 7 ++ [u28, u33, (sli p 0 224 224), (eN k), undef] ++ (zs zf38 12 32 ++ [(Value.bool false), (sli p 0 224 224), (eN k), (Value.bool (decide (k < 224))), (z 48), (z 49), (sli p 0 224 224), (eN k), u28, (eN k), (eN (k / 8)), (ixp u28 (k / 8))] ++ (zs z 56 7 ++ [(zf38 63), (zf38 64), (zf38 65), (zf38 66)] ++ (us 9 ++ [(zf38 76)])))) (by kernel_rfl) ?_
    refine wpL.is rfl (d_ldx (i := (k / 8)) (xs := (flipL (encR (dataL la 24)) (placesL ll 224 12))) (enc := eB) (v := ((flipL (encR (dataL la 24)) (placesL ll 224 12)).getD (k / 8) 0)) ⟨_, Try.underlying5, rfl⟩ rfl f29 (g_at (by have := flipL_length (encR (dataL la 24)) (placesL ll 224 12); have := places_le ll 224 12; have := dataL_length la 24; have := encR_len (dataL la 24); first | omega | (simp; done) | (simp; omega)))) ?_
    refine wpL.is rfl (d_move rfl) ?_
    refine wpL.is rfl (n_rem (a := k) (b := 8) rfl rfl (by decide)) ?_
    refine wpL.flat (zs zf38 0 7 ++ [u28, u33, (sli p 0 224 224), (eN k), undef] ++ (zs zf38 12 32 ++ [(Value.bool false), (sli p 0 224 224), (eN k), (Value.bool (decide (k < 224))), (z 48), (z 49), (sli p 0 224 224), (eN k), u28, (eN k), (eN (k / 8)), (ixp u28 (k / 8)), (eB ((flipL (encR (dataL la 24)) (placesL ll 224 12)).getD (k / 8) 0)), (eN k), (eN (k % 8)), (z 59), (z 60), (z 61), (z 62), (zf38 63), (zf38 64), (zf38 65), (zf38 66)] ++ (us 9 ++ [(zf38 76)]))) (by kernel_rfl) ?_
    refine wpL.is rfl (n_toU Try.underlying3 Try.underlying37 rfl (by omega)) ?_
    refine wpL.is rfl (b_shr (a := (k % 8)) rfl rfl (by omega)) ?_
    refine wpL.is rfl (b_and (c := (shrB ((flipL (encR (dataL la 24)) (placesL ll 224 12)).getD (k / 8) 0) (k % 8))) (e := 1) rfl rfl) ?_
    refine wpL.flat (zs zf38 0 7 ++ [u28, u33, (sli p 0 224 224), (eN k), undef] ++ (zs zf38 12 32 ++ [(Value.bool false), (sli p 0 224 224), (eN k), (Value.bool (decide (k < 224))), (z 48), (z 49), (sli p 0 224 224), (eN k), u28, (eN k), (eN (k / 8)), (ixp u28 (k / 8)), (eB ((flipL (encR (dataL la 24)) (placesL ll 224 12)).getD (k / 8) 0)), (eN k), (eN (k % 8)), (Value.int .u64 ((k % 8 : Nat) : Int)), (eB (shrB ((flipL (encR (dataL la 24)) (placesL ll 224 12)).getD (k / 8) 0) (k % 8))), (eB ((shrB ((flipL (encR (dataL la 24)) (placesL ll 224 12)).getD (k / 8) 0) (k % 8)) &&& 1)), (z 62), (zf38 63), (zf38 64), (zf38 65), (zf38 66)] ++ (us 9 ++ [(zf38 76)]))) (by kernel_rfl) ?_
    refine wpL.is rfl (d_index1 (n := 224) (i := k) Try.underlying22 s_ti5 rfl (show _ = Value.int _ ((k : Nat) : Int) from rfl) (by omega)) ?_
    refine wpL.op rfl (d_store (b := p) (i := k) (v := (eB ((shrB ((flipL (encR (dataL la 24)) (placesL ll 224 12)).getD (k / 8) 0) (k % 8)) &&& 1))) s_ti5 rfl rfl rfl a41 (by rw [List.length_map, l_p]; omega) (m_put (btTo (flipL (encR (dataL la 24)) (placesL ll 224 12)) k) k ((shrB ((flipL (encR (dataL la 24)) (placesL ll 224 12)).getD (k / 8) 0) (k % 8)) &&& 1) eB)) ?_
    rintro _ w45 ⟨a46, o47⟩
    replace h1 := h1.stepb o47 in1
    replace h2 := h2.stepb o47 in1
    replace h3 := h3.stepb o47 in1
    replace f17 := f17.stepb o47 in1
    replace f21 := f21.stepb o47 in1
    replace f25 := f25.stepb o47 in1
    replace f29 := f29.stepb o47 in1
    replace f34 := f34.stepb o47 in1
    replace f_v35_3 := f_v35_3.stepb o47 in1
    replace f_v35_8 := f_v35_8.stepb o47 in1
    replace f_v35_11 := f_v35_11.stepb o47 in1
    replace oW := oW.tailb o47 g_oW_p
    replace o43 := o43.tail o47 (fun k _ e => by have : k = p := e; rw [this]; exact in1)
    replace l_p : ((btTo (flipL (encR (dataL la 24)) (placesL ll 224 12)) k).set k ((shrB ((flipL (encR (dataL la 24)) (placesL ll 224 12)).getD (k / 8) 0) (k % 8)) &&& 1) : List UInt8).length = 224 := (List.length_set ..).trans l_p
    refine wpL.flat (zs zf38 0 7 ++ [u28, u33, (sli p 0 224 224), (eN k), undef] ++ (zs zf38 12 32 ++ [(Value.bool false), (sli p 0 224 224), (eN k), (Value.bool (decide (k < 224))), (z 48), (z 49), (sli p 0 224 224), (eN k), u28, (eN k), (eN (k / 8)), (ixp u28 (k / 8)), (eB ((flipL (encR (dataL la 24)) (placesL ll 224 12)).getD (k / 8) 0)), (eN k), (eN (k % 8)), (Value.int .u64 ((k % 8 : Nat) : Int)), (eB (shrB ((flipL (encR (dataL la 24)) (placesL ll 224 12)).getD (k / 8) 0) (k % 8))), (eB ((shrB ((flipL (encR (dataL la 24)) (placesL ll 224 12)).getD (k / 8) 0) (k % 8)) &&& 1)), (ptr p k), (zf38 63), (zf38 64), (zf38 65), (zf38 66)] ++ (us 9 ++ [(zf38 76)]))) (by kernel_rfl) ?_
    refine wpL.done ?_
    refine inb_n (then_n ?_)
    refine forget (fun zf48 => (zs zf38 0 7 ++ [u28, u33, (sli p 0 224 224), (eN k), undef] ++ (zs zf38 12 32 ++ [(Value.bool false), (sli p 0 224 224)] ++ (zs zf48 46 17 ++ [(zf38 63), (zf38 64), (zf38 65), (zf38 66)] ++ (us 9 ++ [(zf38 76)]))))) (by kernel_rfl) (fun zf48 => ?_)
    refine plain ?_
    refine wpL.is rfl (d_move rfl) ?_
    refine wpL.is rfl (n_add (a := k) (b := 1) rfl rfl (by omega)) ?_
    refine wpL.is rfl (d_assign rfl) ?_
    refine wpL.flat (zs zf38 0 7 ++ [u28, u33, (sli p 0 224 224), (eN (k + 1)), undef] ++ (zs zf38 12 32 ++ [(Value.bool false), (sli p 0 224 224), (zf48 46), (zf48 47), (eN k), (eN (k + 1))] ++ (zs zf48 50 13 ++ [(zf38 63), (zf38 64), (zf38 65), (zf38 66)] ++ (us 9 ++ [(zf38 76)])))) (by kernel_rfl) ?_
    refine wpL.done ?_
    refine then_n ?_
    refine ⟨_, (k + 1), rfl, rfl, ⟨?_, ?_, ?_, ?_⟩, ?_⟩
    ·
     (try dsimp only)
     all_goals (omega)
    ·
     (try dsimp only)
     all_goals (exact o43)
    ·
     (try dsimp only)
     all_goals (exact btTo_length _ _)
    ·
     (try dsimp only)
     all_goals (rw [btTo_step] at a46; exact a46)
    ·
     (try dsimp only)
     all_goals (omega)
   ·
    refine wpIn_exit ?_
    refine then_x (then_x (inb_e ?_))
    refine then_n ?_
    refine wpIn_seq ?_
    refine wpIn_seq ?_
    refine plain ?_
    refine wpL.is rfl (d_assign rfl) ?_
    refine wpL.flat (zs zf38 0 7 ++ [u28, u33, (sli p 0 224 224), (eN k), (eN 1)] ++ (zs zf38 12 32 ++ [(Value.bool false), (sli p 0 224 224), (eN k), (Value.bool (decide (k < 224)))] ++ (zs z 48 15 ++ [(zf38 63), (zf38 64), (zf38 65), (zf38 66)] ++ (us 9 ++ [(zf38 76)])))) (by kernel_rfl) ?_
    refine wpL.done ?_
    have hs_ := (synR_iff (flipL (encR (dataL la 24)) (placesL ll 224 12))).2 hw_
    refine then_n ?_
    refine wpIn_block ?_
    refine loop2 (fun (i : (Nat)) => fun (z : Nat → Value) => ((zs zf38 0 6 ++ [(z 6), u28, u33, (sli p 0 224 224), (eN k), (eN i)] ++ (zs zf38 12 32 ++ [(Value.bool false), (sli p 0 224 224), (eN k), (Value.bool (decide (k < 224)))] ++ (zs z 48 29))) : List Value)) (fun (i : (Nat)) => fun (w_ : World) => (1 ≤ i ∧ i ≤ 9) ∧ Only (Or1 p No) w44 w_ ∧ Arr 5 p ((btTo (flipL (encR (dataL la 24)) (placesL ll 224 12)) k).map eB) w_) (fun (i : (Nat)) => 9 - i) 1 rfl ?_ ?_
    ·
     refine ⟨?_, ?_, ?_⟩
     ·
      (try dsimp only)
      all_goals (omega)
     ·
      (try dsimp only)
      all_goals (exact Only.refl _ _)
     ·
      (try dsimp only)
      all_goals (exact a41)
    ·
     rintro i z w50 ⟨hi, o49, a41⟩
     (try dsimp only)
     replace h1 := h1.step o49 (or1_mono no_any)
     replace h2 := h2.step o49 (or1_mono no_any)
     replace h3 := h3.step o49 (or1_mono no_any)
     replace f17 := f17.step o49 (or1_mono no_any)
     replace f21 := f21.step o49 (or1_mono no_any)
     replace f25 := f25.step o49 (or1_mono no_any)
     replace f29 := f29.step o49 (or1_mono no_any)
     replace f34 := f34.step o49 (or1_mono no_any)
     replace f_v35_3 := f_v35_3.step o49 (or1_mono no_any)
     replace f_v35_8 := f_v35_8.step o49 (or1_mono no_any)
     replace f_v35_11 := f_v35_11.step o49 (or1_mono no_any)
     replace oW := oW.tail o49 (tl_new g_oW_p tl_no)
     replace o43 := o43.tail o49 (tl_in in1 tl_no)
     refine wpIn_seq ?_
     refine wpIn_seq ?_
     refine plain ?_
     refine wpL.is rfl (d_move rfl) ?_
     refine wpL.is rfl (n_leq (a := i) (b := 8) rfl rfl rfl) ?_
     refine wpL.flat (zs zf38 0 6 ++ [(z 6), u28, u33, (sli p 0 224 224), (eN k), (eN i)] ++ (zs zf38 12 32 ++ [(Value.bool false), (sli p 0 224 224), (eN k), (Value.bool (decide (k < 224)))] ++ (zs z 48 15 ++ [(eN i), (Value.bool (decide (i ≤ 8)))] ++ (zs z 65 12)))) (by kernel_rfl) ?_
     refine wpL.done ?_
     refine then_n ?_
     refine cond_if rfl (fun c1 => ?_) (fun c1 => ?_)
     ·
      refine wpIn_skip ?_
      refine then_n ?_
      refine wpIn_seq ?_
      refine wpIn_block ?_
      refine wpIn_seq ?_
      refine drawn_pure [0, 0, 2, 7, 0, 0, 32, 112, 240, 511] [(0, 67), (1, 68), (2, 69), (3, 70), (4, 71), (5, 72), (6, 73), (7, 74), (8, 75), (9, 76)] [(sli p 0 224 224), (eN i), (eB (exI ((i : Nat) : Int))), (eB (evP (btTo (flipL (encR (dataL la 24)) (placesL ll 224 12)) k) (exI ((i : Nat) : Int)))), u33, (eN i), (eN (i - 1)), (ixp u33 (i - 1)), (eB ((synR (flipL (encR (dataL la 24)) (placesL ll 224 12))).getD (i - 1) 0)), (Value.bool false)] (zs zf38 0 6 ++ [(z 6), u28, u33, (sli p 0 224 224), (eN k), (eN i)] ++ (zs zf38 12 32 ++ [(Value.bool false), (sli p 0 224 224), (eN k), (Value.bool (decide (k < 224)))] ++ (zs z 48 15 ++ [(eN i), (Value.bool (decide (i ≤ 8))), (z 65), (z 66), (sli p 0 224 224), (eN i), (eB (exI ((i : Nat) : Int))), (eB (evP (btTo (flipL (encR (dataL la 24)) (placesL ll 224 12)) k) (exI ((i : Nat) : Int)))), u33, (eN i), (eN (i - 1)), (ixp u33 (i - 1)), (eB ((synR (flipL (encR (dataL la 24)) (placesL ll 224 12))).getD (i - 1) 0)), (Value.bool false)]))) s_mx (by kernel_rfl) (by kernel_rfl) rfl (by kernel_rfl) (by kernel_rfl) ?_ ?_
      ·
       intro w_ hO_
       refine AllG.cons (gi rfl (d_move rfl)) ?_
       refine AllG.cons (gi rfl (d_move rfl)) ?_
       refine AllG.cons (gc rfl (d_call (xl := [.tmp 68]) (al := [(eN i)]) Try.func19 (by kernel_rfl) rfl rfl rfl (ref2Exp_ok ((i : Nat) : Int) _))) ?_
       refine AllG.cons (gc rfl (d_call (xl := [.tmp 67, .tmp 69]) (al := [(sli p 0 224 224), (eB (exI ((i : Nat) : Int)))]) Try.func27 (by kernel_rfl) rfl rfl rfl (ref3Eval_ok (btTo (flipL (encR (dataL la 24)) (placesL ll 224 12)) k) (sli p 0 224 224) (exI ((i : Nat) : Int)) _ (Ps.no (arr_seq (a41.step0 hO_) l_p (Nat.le_refl _))) (by have := flipL_length (encR (dataL la 24)) (placesL ll 224 12); have := places_le ll 224 12; have := dataL_length la 24; have := encR_len (dataL la 24); have := btTo_length (flipL (encR (dataL la 24)) (placesL ll 224 12)) k; first | omega | (simp; done) | (simp; omega))))) ?_
       refine AllG.cons (gi rfl (d_move rfl)) ?_
       refine AllG.cons (gi rfl (d_move rfl)) ?_
       refine AllG.cons (gi rfl (n_sub (a := i) (b := 1) rfl rfl (by omega) (by omega))) ?_
       refine AllG.cons (gi rfl (d_ix (i := (i - 1)) (xs := (synR (flipL (encR (dataL la 24)) (placesL ll 224 12)))) Try.underlying22 s_ti5 rfl (f34.step0 hO_) (show _ = Value.int _ ((i - 1 : Nat) : Int) from rfl) (by have := flipL_length (encR (dataL la 24)) (placesL ll 224 12); have := places_le ll 224 12; have := dataL_length la 24; have := encR_len (dataL la 24); have := synR_len (flipL (encR (dataL la 24)) (placesL ll 224 12)); first | omega | (simp; done) | (simp; omega)))) ?_
       refine AllG.cons (gi rfl (d_ldx (i := (i - 1)) (xs := (synR (flipL (encR (dataL la 24)) (placesL ll 224 12)))) (enc := eB) (v := ((synR (flipL (encR (dataL la 24)) (placesL ll 224 12))).getD (i - 1) 0)) ⟨_, Try.underlying5, rfl⟩ rfl (f34.step0 hO_) (g_at (by have := flipL_length (encR (dataL la 24)) (placesL ll 224 12); have := places_le ll 224 12; have := dataL_length la 24; have := encR_len (dataL la 24); have := synR_len (flipL (encR (dataL la 24)) (placesL ll 224 12)); first | omega | (simp; done) | (simp; omega))))) ?_
       refine AllG.cons (gi rfl (b_neq (c := (evP (btTo (flipL (encR (dataL la 24)) (placesL ll 224 12)) k) (exI ((i : Nat) : Int)))) (e := ((synR (flipL (encR (dataL la 24)) (placesL ll 224 12))).getD (i - 1) 0)) rfl rfl (by rw [decide_eq_true (btTo_ev hw_ (by omega) (by omega) (by omega))] <;> rfl))) ?_
       exact AllG.nil
      intro w51 o52
      replace h1 := h1.step0 o52
      replace h2 := h2.step0 o52
      replace h3 := h3.step0 o52
      replace f17 := f17.step0 o52
      replace f21 := f21.step0 o52
      replace f25 := f25.step0 o52
      replace f29 := f29.step0 o52
      replace f34 := f34.step0 o52
      replace f_v35_3 := f_v35_3.step0 o52
      replace f_v35_8 := f_v35_8.step0 o52
      replace f_v35_11 := f_v35_11.step0 o52
      replace a41 := a41.step0 o52
      replace oW := oW.tail0 o52
      replace o43 := o43.tail0 o52
      replace o49 := o49.tail0 o52
      refine then_n ?_
      refine cond_f rfl ?_
      refine wpIn_skip ?_
      refine inb_n (then_n ?_)
      refine plain ?_
      refine wpL.is rfl (d_move rfl) ?_
      refine wpL.is rfl (n_add (a := i) (b := 1) rfl rfl (by omega)) ?_
      refine wpL.is rfl (d_assign rfl) ?_
      refine wpL.flat (zs zf38 0 6 ++ [(z 6), u28, u33, (sli p 0 224 224), (eN k), (eN (i + 1))] ++ (zs zf38 12 32 ++ [(Value.bool false), (sli p 0 224 224), (eN k), (Value.bool (decide (k < 224)))] ++ (zs z 48 15 ++ [(eN i), (Value.bool (decide (i ≤ 8))), (eN i), (eN (i + 1)), (sli p 0 224 224), (eN i), (eB (exI ((i : Nat) : Int))), (eB (evP (btTo (flipL (encR (dataL la 24)) (placesL ll 224 12)) k) (exI ((i : Nat) : Int)))), u33, (eN i), (eN (i - 1)), (ixp u33 (i - 1)), (eB ((synR (flipL (encR (dataL la 24)) (placesL ll 224 12))).getD (i - 1) 0)), (Value.bool false)]))) (by kernel_rfl) ?_
      refine wpL.done ?_
      refine then_n ?_
      refine ⟨_, (i + 1), rfl, rfl, ⟨?_, ?_, ?_⟩, ?_⟩
      ·
       (try dsimp only)
       all_goals (omega)
      ·
       (try dsimp only)
       all_goals (exact o49)
      ·
       (try dsimp only)
       all_goals (exact a41)
      ·
       (try dsimp only)
       all_goals (omega)
     ·
      refine wpIn_exit ?_
      refine then_x (then_x (inb_e ?_))
      refine then_n ?_
      refine forget (fun zf53 => (zs zf53 0 10 ++ [(eN k), (eN i)] ++ (zs zf53 12 65))) (by kernel_rfl) (fun zf53 => ?_)
      refine wpIn_seq ?_
      refine plain ?_
      refine wpL.is rfl (d_assign rfl) ?_
      refine wpL.flat (zs zf53 0 6 ++ [(Value.bool true), (zf53 7), (zf53 8), (zf53 9), (eN k), (eN i)] ++ (zs zf53 12 65)) (by kernel_rfl) ?_
      refine wpL.done ?_
      refine then_n ?_
      refine wpIn_ret ?_
      refine leave0 (v := (Value.bool true)) (res1 Try.results6 rfl) ?_
      exact ⟨rfl, oW⟩

end Go.Proofs.YtkppgdbpadaegaaF
