import Derived.Test.YtphlhejccgbmfaaHlpoly1
set_option linter.unusedVariables false
set_option linter.unusedSimpArgs false
namespace Go.Proofs.YtphlhejccgbmfaaF
open Go Go.Shelf Go.Proofs.YtphlhejccgbmfaaS Ram
set_option maxRecDepth 20000 in
set_option maxHeartbeats 1000000 in
theorem polyMinimal_ok (n : Int) (W : World) :
    CW Try.prog 3 #[(eI n)] W (Rt (RIs (.bool true) W)) := by
  have oW : Only No W W := Only.refl _ _
  refine enter (al := [(eI n)]) (k := 54) (l := [(eI n), undef, undef, undef, undef, undef, undef, undef, undef, undef, undef, undef, undef, undef, undef, undef, undef, undef, undef, undef, undef, undef, undef, undef, undef, undef, undef, undef, undef, undef, undef, undef, undef, undef, undef, undef, undef, undef, undef, undef, undef, undef, undef, undef, undef, undef, undef, undef, undef, undef, undef, undef, undef, undef, undef]) Try.func3 rfl Try.ntmps3 rfl rfl ?_
  refine wpIn_seq ?_
  refine plain ?_
  refine wpL.is (v := (Value.bool false)) rfl (d_assign (v := (Value.bool false)) rfl) ?_
  refine wpL.flat [(eI n), undef, (Value.bool false), undef, undef, undef, undef, undef, undef, undef, undef, undef, undef, undef, undef, undef, undef, undef, undef, undef, undef, undef, undef, undef, undef, undef, undef, undef, undef, undef, undef, undef, undef, undef, undef, undef, undef, undef, undef, undef, undef, undef, undef, undef, undef, undef, undef, undef, undef, undef, undef, undef, undef, undef, undef] (by kernel_rfl) ?_
  refine wpL.done ?_
  refine then_n ?_
  refine wpIn_seq ?_
  refine wpIn_seq ?_
  refine plain ?_
  refine wpL.op rfl (d_call (xl := []) (al := []) Try.func10 (by kernel_rfl) rfl rfl rfl (known_ok _)) ?_
  rintro _ w1 ⟨rfl, o2⟩
  replace oW := oW.tail0 o2
  refine wpL.is (v := (Value.bool false)) rfl (d_not rfl rfl) ?_
  refine wpL.flat [(eI n), undef, (Value.bool false), undef, undef, undef, undef, (Value.bool true), (Value.bool false), undef, undef, undef, undef, undef, undef, undef, undef, undef, undef, undef, undef, undef, undef, undef, undef, undef, undef, undef, undef, undef, undef, undef, undef, undef, undef, undef, undef, undef, undef, undef, undef, undef, undef, undef, undef, undef, undef, undef, undef, undef, undef, undef, undef, undef, undef] (by kernel_rfl) ?_
  refine wpL.done ?_
  refine then_n ?_
  refine cond_f rfl ?_
  refine wpIn_skip ?_
  refine then_n ?_
  refine wpIn_seq ?_
  refine plain ?_
  refine wpL.is (v := (eI n)) rfl (d_move (v := (eI n)) rfl) ?_
  refine wpL.op rfl (d_call (xl := [.tmp 9]) (al := [(eI n)]) Try.func11 (by kernel_rfl) rfl rfl rfl (minimal_ok n _)) ?_
  rintro u5 w3 f6
  obtain ⟨f6, o4⟩ := f6
  replace f6 := f6.less (Y := (Old W.heap.size)) (old_old oW.size)
  replace oW := oW.tail0 o4
  refine wpL.is (v := u5) rfl (d_assign (v := u5) rfl) ?_
  refine wpL.flat [(eI n), undef, (Value.bool false), u5, undef, undef, undef, (Value.bool true), (Value.bool false), (eI n), u5, undef, undef, undef, undef, undef, undef, undef, undef, undef, undef, undef, undef, undef, undef, undef, undef, undef, undef, undef, undef, undef, undef, undef, undef, undef, undef, undef, undef, undef, undef, undef, undef, undef, undef, undef, undef, undef, undef, undef, undef, undef, undef, undef, undef] (by kernel_rfl) ?_
  refine wpL.done ?_
  have hml := minP_le n
  refine then_n ?_
  refine wpIn_seq ?_
  refine wpIn_seq ?_
  refine drawn' (O := No) (n := 11) [0, 1, 0, 4, 12, 31, 63, 127, 255, 511, 1023] [(0, 11), (1, 12), (2, 13), (3, 14), (4, 15), (5, 16), (6, 17), (7, 18), (8, 19), (9, 20), (10, 21)] [0, 1, 2, 3, 4, 5, 6, 7, 8, 9, 10] [] (fun i_ => ([RF.is No u5, RF.is No (Value.string (strOf (minP n))), RF.is No (eI n), RF.ps No (Old W.heap.size) (Seq kB (minP n)) no_any, RF.is No (Value.string (strOf (minP n))), RF.is No (Value.bool false), RF.is No (Value.bool false), RF.is No u5, RF.is No (eN ((minP n).length)), RF.is No (Value.bool false), RF.is No (Value.bool false)] : List (RF No)).getD i_ (RF.any No)) (fun _ w_ => True) (fun v7 => [(eI n), undef, (Value.bool false), u5, undef, undef, undef, (Value.bool true), (Value.bool false), (eI n), u5, (v7 0), (v7 1), (v7 2), (v7 3), (v7 4), (v7 5), (v7 6), (v7 7), (v7 8), (v7 9), (v7 10), undef, undef, undef, undef, undef, undef, undef, undef, undef, undef, undef, undef, undef, undef, undef, undef, undef, undef, undef, undef, undef, undef, undef, undef, undef, undef, undef, undef, undef, undef, undef, undef, undef]) s_mx (by kernel_rfl) rfl (by decide) (by rfl) (fun v_ => by kernel_rfl) (fun _ => fun _ _ _ _ => trivial) trivial ?_ ?_ ?_
  · skip
    refine ls_cons ?_ ?_
    · intro v7 lo hi w_ k_ hO hd _ _ hk_ _ hR hold
      clear hd hold
      refine ⟨_, rfl, gd rfl ?_⟩
      exact Does.is (d_move (v := u5) rfl)
    refine ls_cons ?_ ?_
    · intro v7 lo hi w_ k_ hO hd _ _ hk_ _ hR hold
      have e0 : v7 0 = u5 := hd 0 (by kernel_rfl)
      clear hd hold
      refine ⟨_, rfl, gd rfl ?_⟩
      exact Does.is (d_str Try.underlying23 Try.underlying5 Try.underlying9 e0 (f6.step hO no_any))
    refine ls_cons ?_ ?_
    · intro v7 lo hi w_ k_ hO hd _ _ hk_ _ hR hold
      clear hd hold
      refine ⟨_, rfl, gd rfl ?_⟩
      exact Does.is (d_move (v := (eI n)) rfl)
    refine ls_cons ?_ ?_
    · intro v7 lo hi w_ k_ hO hd _ _ hk_ _ hR hold
      have e2 : v7 2 = (eI n) := hd 2 (by kernel_rfl)
      clear hd hold
      refine ⟨_, rfl, gd rfl ?_⟩
      refine Does.mono (R := ROw 5 eB (minP n) w_) ?_ (fun u w' h => ⟨(h.ps).1.less (old_old (Nat.le_trans oW.size hO.size)), (h.ps).2⟩)
      exact d_call (xl := [.tmp 13]) (al := [(eI n)]) Try.func12 (by kernel_rfl) rfl (show ([(v7 2)] : List Value) = [(eI n)] from by rw [e2]) rfl (ref3Minimal_ok n _)
    refine ls_cons ?_ ?_
    · intro v7 lo hi w_ k_ hO hd _ _ hk_ _ hR hold
      have d3 : Ps (Old W.heap.size) (Seq kB (minP n) (v7 3)) w_ := hd 3 (by kernel_rfl)
      clear hd hold
      refine ⟨_, rfl, gd rfl ?_⟩
      exact Does.is (d_str Try.underlying23 Try.underlying5 Try.underlying9 rfl d3)
    refine ls_cons ?_ ?_
    · intro v7 lo hi w_ k_ hO hd _ _ hk_ _ hR hold
      have e1 : v7 1 = (Value.string (strOf (minP n))) := hd 1 (by kernel_rfl)
      have e4 : v7 4 = (Value.string (strOf (minP n))) := hd 4 (by kernel_rfl)
      clear hd hold
      refine ⟨_, rfl, gd rfl ?_⟩
      exact Does.is (d_sneq (a := (minP n)) (c := (minP n)) e1 e4 (by rw [decide_eq_true rfl]; rfl))
    refine ls_cons ?_ ?_
    · intro v7 lo hi w_ k_ hO hd _ _ hk_ _ hR hold
      have e5 : v7 5 = (Value.bool false) := hd 5 (by kernel_rfl)
      clear hd hold
      refine ⟨_, rfl, gd rfl ?_⟩
      exact Does.is (d_move (v := (Value.bool false)) e5)
    refine ls_cons ?_ ?_
    · intro v7 lo hi w_ k_ hO hd _ _ hk_ _ hR hold
      have e6 : v7 6 = (Value.bool false) := hd 6 (by kernel_rfl)
      clear hd hold
      refine ⟨_, rfl, gd_on rfl rfl rfl (Nat.le_of_ble_eq_true rfl) e6 ?_⟩
      exact Does.is (d_move (v := u5) rfl)
    refine ls_cons ?_ ?_
    · intro v7 lo hi w_ k_ hO hd _ _ hk_ _ hR hold
      have e6 : v7 6 = (Value.bool false) := hd 6 (by kernel_rfl)
      have e7 : v7 7 = u5 := hd 7 (by kernel_rfl)
      clear hd hold
      refine ⟨_, rfl, gd_on rfl rfl rfl (Nat.le_of_ble_eq_true rfl) e6 ?_⟩
      exact Does.is (d_lenS rfl Try.underlying23 e7 (f6.step hO no_any))
    refine ls_cons ?_ ?_
    · intro v7 lo hi w_ k_ hO hd _ _ hk_ _ hR hold
      have e6 : v7 6 = (Value.bool false) := hd 6 (by kernel_rfl)
      have e8 : v7 8 = (eN ((minP n).length)) := hd 8 (by kernel_rfl)
      clear hd hold
      refine ⟨_, rfl, gd_on rfl rfl rfl (Nat.le_of_ble_eq_true rfl) e6 ?_⟩
      exact Does.is (n_lss (a := ((minP n).length)) (b := 2) e8 rfl (decide_eq_false (by have := minP_two n; omega)))
    refine ls_cons ?_ ?_
    · intro v7 lo hi w_ k_ hO hd _ _ hk_ _ hR hold
      have e6 : v7 6 = (Value.bool false) := hd 6 (by kernel_rfl)
      have e9 : v7 9 = (Value.bool false) := hd 9 (by kernel_rfl)
      clear hd hold
      refine ⟨_, rfl, gd rfl ?_⟩
      exact Does.is (d_pick (b := false) (v := (Value.bool false)) e6 e9)
    exact ls_nil
  · skip
    exact ms_nil
  intro v7 lo_ hi_ w8 o9 hd iv_ hR
  have e0 : v7 0 = u5 := hd 0 (by decide)
  have e1 : v7 1 = (Value.string (strOf (minP n))) := hd 1 (by decide)
  have e2 : v7 2 = (eI n) := hd 2 (by decide)
  have e4 : v7 4 = (Value.string (strOf (minP n))) := hd 4 (by decide)
  have e5 : v7 5 = (Value.bool false) := hd 5 (by decide)
  have e6 : v7 6 = (Value.bool false) := hd 6 (by decide)
  have e7 : v7 7 = u5 := hd 7 (by decide)
  have e8 : v7 8 = (eN ((minP n).length)) := hd 8 (by decide)
  have e9 : v7 9 = (Value.bool false) := hd 9 (by decide)
  have e10 : v7 10 = (Value.bool false) := hd 10 (by decide)
  have f_v7_3 : Ps (Old W.heap.size) (Seq kB (minP n) (v7 3)) w8 := hd 3 (by decide)
  clear hd iv_ lo_ hi_
  refine fr_eq (l' := [(eI n), undef, (Value.bool false), u5, undef, undef, undef, (Value.bool true), (Value.bool false), (eI n), u5, u5, (Value.string (strOf (minP n))), (eI n), (v7 3), (Value.string (strOf (minP n))), (Value.bool false), (Value.bool false), u5, (eN ((minP n).length)), (Value.bool false), (Value.bool false), undef, undef, undef, undef, undef, undef, undef, undef, undef, undef, undef, undef, undef, undef, undef, undef, undef, undef, undef, undef, undef, undef, undef, undef, undef, undef, undef, undef, undef, undef, undef, undef, undef]) (by rw [e0, e1, e2, e4, e5, e6, e7, e8, e9, e10]) ?_
  clear e0 e1 e2 e4 e5 e6 e7 e8 e9 e10
  replace f6 := f6.step o9 no_any
  clear hR
  replace oW := oW.tail o9 tl_no
  refine then_n ?_
  refine cond_f rfl ?_
  refine wpIn_skip ?_
  refine then_n ?_
  refine wpIn_seq ?_
  refine wpIn_seq ?_
  refine plain ?_
  refine wpL.is (v := (eN 0)) rfl (d_assign (v := (eN 0)) rfl) ?_
  refine wpL.flat [(eI n), undef, (Value.bool false), u5, (eN 0), undef, undef, (Value.bool true), (Value.bool false), (eI n), u5, u5, (Value.string (strOf (minP n))), (eI n), (v7 3), (Value.string (strOf (minP n))), (Value.bool false), (Value.bool false), u5, (eN ((minP n).length)), (Value.bool false), (Value.bool false), undef, undef, undef, undef, undef, undef, undef, undef, undef, undef, undef, undef, undef, undef, undef, undef, undef, undef, undef, undef, undef, undef, undef, undef, undef, undef, undef, undef, undef, undef, undef, undef, undef] (by kernel_rfl) ?_
  refine wpL.done ?_
  refine then_n ?_
  refine wpIn_block ?_
  refine loop2 (fun (i : (Nat)) => fun (z : Nat → Value) => ([(eI n), undef, (z 2), u5, (eN i), undef, undef, (Value.bool true), (Value.bool false), (eI n), u5, u5, (Value.string (strOf (minP n))), (eI n), (v7 3), (Value.string (strOf (minP n))), (Value.bool false), (Value.bool false), u5, (eN ((minP n).length)), (Value.bool false), (Value.bool false), (z 22), (z 23), (z 24), (z 25), (z 26), (z 27), (z 28), (z 29), (z 30), (z 31), (z 32), undef, undef, undef, undef, undef, undef, undef, undef, undef, undef, undef, undef, undef, undef, undef, undef, undef, undef, undef, undef, undef, undef] : List Value)) (fun (i : (Nat)) => fun (w_ : World) => (i ≤ (minP n).length) ∧ Only No w8 w_) (fun (i : (Nat)) => (minP n).length - i) 0 rfl ?_ ?_
  · refine ⟨?_, ?_⟩
    · (try dsimp only)
      all_goals (exact Nat.zero_le _)
    · (try dsimp only)
      all_goals (exact Only.refl _ _)
  · rintro i z w11 ⟨hi, o10⟩
    (try dsimp only)
    replace f6 := f6.step o10 no_any
    replace f_v7_3 := f_v7_3.step o10 no_any
    replace oW := oW.tail o10 tl_no
    refine wpIn_seq ?_
    refine wpIn_seq ?_
    refine plain ?_
    refine wpL.is (v := (eN i)) rfl (d_move (v := (eN i)) rfl) ?_
    refine wpL.is (v := u5) rfl (d_move (v := u5) rfl) ?_
    refine wpL.is (v := (eN ((minP n).length))) rfl (d_lenS rfl Try.underlying23 rfl f6) ?_
    refine wpL.flat [(eI n), undef, (z 2), u5, (eN i), undef, undef, (Value.bool true), (Value.bool false), (eI n), u5, u5, (Value.string (strOf (minP n))), (eI n), (v7 3), (Value.string (strOf (minP n))), (Value.bool false), (Value.bool false), u5, (eN ((minP n).length)), (Value.bool false), (Value.bool false), (eN i), u5, (eN ((minP n).length)), (z 25), (z 26), (z 27), (z 28), (z 29), (z 30), (z 31), (z 32), undef, undef, undef, undef, undef, undef, undef, undef, undef, undef, undef, undef, undef, undef, undef, undef, undef, undef, undef, undef, undef, undef] (by kernel_rfl) ?_
    refine wpL.is (v := (Value.bool (decide (i < ((minP n).length))))) rfl (n_lss (a := i) (b := ((minP n).length)) rfl rfl rfl) ?_
    refine wpL.flat [(eI n), undef, (z 2), u5, (eN i), undef, undef, (Value.bool true), (Value.bool false), (eI n), u5, u5, (Value.string (strOf (minP n))), (eI n), (v7 3), (Value.string (strOf (minP n))), (Value.bool false), (Value.bool false), u5, (eN ((minP n).length)), (Value.bool false), (Value.bool false), (eN i), u5, (eN ((minP n).length)), (Value.bool (decide (i < ((minP n).length)))), (z 26), (z 27), (z 28), (z 29), (z 30), (z 31), (z 32), undef, undef, undef, undef, undef, undef, undef, undef, undef, undef, undef, undef, undef, undef, undef, undef, undef, undef, undef, undef, undef, undef] (by kernel_rfl) ?_
    refine wpL.done ?_
    refine then_n ?_
    refine cond_if rfl (fun c0 => ?_) (fun c0 => ?_)
    · skip
      refine wpIn_skip ?_
      refine then_n ?_
      refine wpIn_seq ?_
      refine wpIn_block ?_
      refine wpIn_seq ?_
      refine plain ?_
      refine wpL.is (v := u5) rfl (d_move (v := u5) rfl) ?_
      refine wpL.is (v := (eN i)) rfl (d_move (v := (eN i)) rfl) ?_
      refine wpL.op rfl (d_indexS (q := kB) (xs := (minP n)) (v := ((minP n).getD i 0)) Try.underlying23 s_ti5 rfl f6 (show _ = Value.int _ ((i : Nat) : Int) from rfl) (by omega) (g_at (by have := minP_le n; first | omega | (simp; done) | (simp; omega)))) ?_
      rintro u12 _ ⟨f13, rfl⟩
      refine wpL.flat [(eI n), undef, (z 2), u5, (eN i), undef, undef, (Value.bool true), (Value.bool false), (eI n), u5, u5, (Value.string (strOf (minP n))), (eI n), (v7 3), (Value.string (strOf (minP n))), (Value.bool false), (Value.bool false), u5, (eN ((minP n).length)), (Value.bool false), (Value.bool false), (eN i), u5, (eN ((minP n).length)), (Value.bool (decide (i < ((minP n).length)))), (z 26), (z 27), u5, (eN i), u12, (z 31), (z 32), undef, undef, undef, undef, undef, undef, undef, undef, undef, undef, undef, undef, undef, undef, undef, undef, undef, undef, undef, undef, undef, undef] (by kernel_rfl) ?_
      refine wpL.is (v := (eB ((minP n).getD i 0))) rfl (d_loadAt (enc := eB) (v := ((minP n).getD i 0)) ⟨_, Try.underlying5, rfl⟩ rfl f13) ?_
      refine wpL.is (v := (Value.bool false)) rfl (b_gtr (c := ((minP n).getD i 0)) (e := 1) rfl rfl (decide_eq_false (minP_bit n i))) ?_
      refine wpL.flat [(eI n), undef, (z 2), u5, (eN i), undef, undef, (Value.bool true), (Value.bool false), (eI n), u5, u5, (Value.string (strOf (minP n))), (eI n), (v7 3), (Value.string (strOf (minP n))), (Value.bool false), (Value.bool false), u5, (eN ((minP n).length)), (Value.bool false), (Value.bool false), (eN i), u5, (eN ((minP n).length)), (Value.bool (decide (i < ((minP n).length)))), (z 26), (z 27), u5, (eN i), u12, (eB ((minP n).getD i 0)), (Value.bool false), undef, undef, undef, undef, undef, undef, undef, undef, undef, undef, undef, undef, undef, undef, undef, undef, undef, undef, undef, undef, undef, undef] (by kernel_rfl) ?_
      refine wpL.done ?_
      refine then_n ?_
      refine cond_f rfl ?_
      refine wpIn_skip ?_
      refine inb_n (then_n ?_)
      refine plain ?_
      refine wpL.is (v := (eN i)) rfl (d_move (v := (eN i)) rfl) ?_
      refine wpL.is (v := (eN (i + 1))) rfl (n_add (a := i) (b := 1) rfl rfl (by omega)) ?_
      refine wpL.is (v := (eN (i + 1))) rfl (d_assign (v := (eN (i + 1))) rfl) ?_
      refine wpL.flat [(eI n), undef, (z 2), u5, (eN (i + 1)), undef, undef, (Value.bool true), (Value.bool false), (eI n), u5, u5, (Value.string (strOf (minP n))), (eI n), (v7 3), (Value.string (strOf (minP n))), (Value.bool false), (Value.bool false), u5, (eN ((minP n).length)), (Value.bool false), (Value.bool false), (eN i), u5, (eN ((minP n).length)), (Value.bool (decide (i < ((minP n).length)))), (eN i), (eN (i + 1)), u5, (eN i), u12, (eB ((minP n).getD i 0)), (Value.bool false), undef, undef, undef, undef, undef, undef, undef, undef, undef, undef, undef, undef, undef, undef, undef, undef, undef, undef, undef, undef, undef, undef] (by kernel_rfl) ?_
      refine wpL.done ?_
      refine then_n ?_
      refine ⟨_, (i + 1), rfl, rfl, ⟨?_, ?_⟩, ?_⟩
      · (try dsimp only)
        all_goals (omega)
      · (try dsimp only)
        all_goals (exact o10)
      · (try dsimp only)
        all_goals (omega)
    · skip
      refine wpIn_exit ?_
      refine then_x (then_x (inb_e ?_))
      refine then_n ?_
      refine wpIn_seq ?_
      refine plain ?_
      refine wpL.is (v := (eI n)) rfl (d_move (v := (eI n)) rfl) ?_
      refine wpL.op rfl (d_call (xl := [.tmp 33, .const (.int .i64 255)]) (al := [(eI n), (eN 255)]) Try.func13 (by kernel_rfl) rfl rfl rfl (within_ok n 255 _ (by omega) (by omega))) ?_
      rintro _ w14 ⟨rfl, o15⟩
      replace f6 := f6.step0 o15
      replace f_v7_3 := f_v7_3.step0 o15
      replace oW := oW.tail0 o15
      replace o10 := o10.tail0 o15
      refine wpL.is (v := (eN ((n % ((255 : Nat) : Int)).toNat))) rfl (d_assign (v := (eN ((n % ((255 : Nat) : Int)).toNat))) rfl) ?_
      refine wpL.flat [(eI n), undef, (z 2), u5, (eN i), (eN ((n % ((255 : Nat) : Int)).toNat)), undef, (Value.bool true), (Value.bool false), (eI n), u5, u5, (Value.string (strOf (minP n))), (eI n), (v7 3), (Value.string (strOf (minP n))), (Value.bool false), (Value.bool false), u5, (eN ((minP n).length)), (Value.bool false), (Value.bool false), (eN i), u5, (eN ((minP n).length)), (Value.bool (decide (i < ((minP n).length)))), (z 26), (z 27), (z 28), (z 29), (z 30), (z 31), (z 32), (eI n), (eN ((n % ((255 : Nat) : Int)).toNat)), undef, undef, undef, undef, undef, undef, undef, undef, undef, undef, undef, undef, undef, undef, undef, undef, undef, undef, undef, undef] (by kernel_rfl) ?_
      refine wpL.done ?_
      refine fr_eq (l' := [(eI n), undef, (z 2), u5, (eN i), (eN (orb (n % 255).toNat 0)), undef, (Value.bool true), (Value.bool false), (eI n), u5, u5, (Value.string (strOf (minP n))), (eI n), (v7 3), (Value.string (strOf (minP n))), (Value.bool false), (Value.bool false), u5, (eN ((minP n).length)), (Value.bool false), (Value.bool false), (eN i), u5, (eN ((minP n).length)), (Value.bool (decide (i < ((minP n).length)))), (z 26), (z 27), (z 28), (z 29), (z 30), (z 31), (z 32), (eI n), (eN ((n % ((255 : Nat) : Int)).toNat)), undef, undef, undef, undef, undef, undef, undef, undef, undef, undef, undef, undef, undef, undef, undef, undef, undef, undef, undef, undef]) (show ([(eI n), undef, (z 2), u5, (eN i), (eN ((n % ((255 : Nat) : Int)).toNat)), undef, (Value.bool true), (Value.bool false), (eI n), u5, u5, (Value.string (strOf (minP n))), (eI n), (v7 3), (Value.string (strOf (minP n))), (Value.bool false), (Value.bool false), u5, (eN ((minP n).length)), (Value.bool false), (Value.bool false), (eN i), u5, (eN ((minP n).length)), (Value.bool (decide (i < ((minP n).length)))), (z 26), (z 27), (z 28), (z 29), (z 30), (z 31), (z 32), (eI n), (eN ((n % ((255 : Nat) : Int)).toNat)), undef, undef, undef, undef, undef, undef, undef, undef, undef, undef, undef, undef, undef, undef, undef, undef, undef, undef, undef, undef] : List Value) = [(eI n), undef, (z 2), u5, (eN i), (eN (orb (n % 255).toNat 0)), undef, (Value.bool true), (Value.bool false), (eI n), u5, u5, (Value.string (strOf (minP n))), (eI n), (v7 3), (Value.string (strOf (minP n))), (Value.bool false), (Value.bool false), u5, (eN ((minP n).length)), (Value.bool false), (Value.bool false), (eN i), u5, (eN ((minP n).length)), (Value.bool (decide (i < ((minP n).length)))), (z 26), (z 27), (z 28), (z 29), (z 30), (z 31), (z 32), (eI n), (eN ((n % ((255 : Nat) : Int)).toNat)), undef, undef, undef, undef, undef, undef, undef, undef, undef, undef, undef, undef, undef, undef, undef, undef, undef, undef, undef, undef] from reslot [(eI n), undef, (z 2), u5, (eN i), (eN ((n % ((255 : Nat) : Int)).toNat)), undef, (Value.bool true), (Value.bool false), (eI n), u5, u5, (Value.string (strOf (minP n))), (eI n), (v7 3), (Value.string (strOf (minP n))), (Value.bool false), (Value.bool false), u5, (eN ((minP n).length)), (Value.bool false), (Value.bool false), (eN i), u5, (eN ((minP n).length)), (Value.bool (decide (i < ((minP n).length)))), (z 26), (z 27), (z 28), (z 29), (z 30), (z 31), (z 32), (eI n), (eN ((n % ((255 : Nat) : Int)).toNat)), undef, undef, undef, undef, undef, undef, undef, undef, undef, undef, undef, undef, undef, undef, undef, undef, undef, undef, undef, undef] 5 (congrArg eN (orb_zero (toNat255 n)).symm)) ?_
      refine then_n ?_
      refine wpIn_seq ?_
      refine wpIn_seq ?_
      refine plain ?_
      refine wpL.is (v := (eN 0)) rfl (d_assign (v := (eN 0)) rfl) ?_
      refine wpL.flat [(eI n), undef, (z 2), u5, (eN i), (eN (orb (n % 255).toNat 0)), (eN 0), (Value.bool true), (Value.bool false), (eI n), u5, u5, (Value.string (strOf (minP n))), (eI n), (v7 3), (Value.string (strOf (minP n))), (Value.bool false), (Value.bool false), u5, (eN ((minP n).length)), (Value.bool false), (Value.bool false), (eN i), u5, (eN ((minP n).length)), (Value.bool (decide (i < ((minP n).length)))), (z 26), (z 27), (z 28), (z 29), (z 30), (z 31), (z 32), (eI n), (eN ((n % ((255 : Nat) : Int)).toNat)), undef, undef, undef, undef, undef, undef, undef, undef, undef, undef, undef, undef, undef, undef, undef, undef, undef, undef, undef, undef] (by kernel_rfl) ?_
      refine wpL.done ?_
      refine then_n ?_
      refine wpIn_block ?_
      refine loop2 (fun (k : (Nat)) => fun (z : Nat → Value) => ([(eI n), undef, (z 2), u5, (eN i), (eN (orb (n % 255).toNat k)), (eN k), (Value.bool true), (Value.bool false), (eI n), u5, u5, (Value.string (strOf (minP n))), (eI n), (v7 3), (Value.string (strOf (minP n))), (Value.bool false), (Value.bool false), u5, (eN ((minP n).length)), (Value.bool false), (Value.bool false), (eN i), u5, (eN ((minP n).length)), (Value.bool (decide (i < ((minP n).length)))), (z 26), (z 27), (z 28), (z 29), (z 30), (z 31), (z 32), (eI n), (eN ((n % ((255 : Nat) : Int)).toNat)), (z 35), (z 36), (z 37), (z 38), (z 39), (z 40), (z 41), (z 42), (z 43), (z 44), (z 45), (z 46), (z 47), (z 48), (z 49), (z 50), (z 51), (z 52), (z 53), (z 54)] : List Value)) (fun (k : (Nat)) => fun (w_ : World) => (k ≤ 8) ∧ Only No w14 w_) (fun (k : (Nat)) => 8 - k) 0 rfl ?_ ?_
      · refine ⟨?_, ?_⟩
        · (try dsimp only)
          all_goals (exact Nat.zero_le _)
        · (try dsimp only)
          all_goals (exact Only.refl _ _)
      · rintro k z w17 ⟨hk, o16⟩
        (try dsimp only)
        replace f6 := f6.step o16 no_any
        replace f_v7_3 := f_v7_3.step o16 no_any
        replace oW := oW.tail o16 tl_no
        replace o10 := o10.tail o16 tl_no
        refine wpIn_seq ?_
        refine wpIn_seq ?_
        refine plain ?_
        refine wpL.is (v := (eN k)) rfl (d_move (v := (eN k)) rfl) ?_
        refine wpL.is (v := (Value.bool (decide (k < 8)))) rfl (n_lss (a := k) (b := 8) rfl rfl rfl) ?_
        refine wpL.flat [(eI n), undef, (z 2), u5, (eN i), (eN (orb (n % 255).toNat k)), (eN k), (Value.bool true), (Value.bool false), (eI n), u5, u5, (Value.string (strOf (minP n))), (eI n), (v7 3), (Value.string (strOf (minP n))), (Value.bool false), (Value.bool false), u5, (eN ((minP n).length)), (Value.bool false), (Value.bool false), (eN i), u5, (eN ((minP n).length)), (Value.bool (decide (i < ((minP n).length)))), (z 26), (z 27), (z 28), (z 29), (z 30), (z 31), (z 32), (eI n), (eN ((n % ((255 : Nat) : Int)).toNat)), (eN k), (Value.bool (decide (k < 8))), (z 37), (z 38), (z 39), (z 40), (z 41), (z 42), (z 43), (z 44), (z 45), (z 46), (z 47), (z 48), (z 49), (z 50), (z 51), (z 52), (z 53), (z 54)] (by kernel_rfl) ?_
        refine wpL.done ?_
        refine then_n ?_
        refine cond_if rfl (fun c1 => ?_) (fun c1 => ?_)
        · skip
          refine wpIn_skip ?_
          refine then_n ?_
          refine wpIn_seq ?_
          refine wpIn_block ?_
          refine wpIn_seq ?_
          refine wpIn_seq ?_
          refine drawn' (O := No) (n := 13) [0, 0, 2, 7, 15, 31, 63, 127, 255, 63, 575, 2047, 4095] [(0, 39), (1, 40), (2, 41), (3, 42), (4, 43), (5, 44), (6, 45), (7, 46), (8, 47), (9, 48), (10, 49), (11, 50), (12, 51)] [0, 1, 2, 3, 4, 5, 6, 7, 8, 9, 10, 11, 12] [] (fun i_ => ([RF.is No u5, RF.is No (eN (orb (n % 255).toNat k)), RF.is No (eB (exI ((orb (n % 255).toNat k : Nat) : Int))), RF.is No (eB (evP (minP n) (exI ((orb (n % 255).toNat k : Nat) : Int)))), RF.is No (Value.bool false), RF.is No (Value.bool false), RF.is No (eN (orb (n % 255).toNat k)), RF.ps No (Old W.heap.size) (Seq kB (minP ((orb (n % 255).toNat k : Nat) : Int))) no_any, RF.is No (Value.string (strOf (minP ((orb (n % 255).toNat k : Nat) : Int)))), RF.is No u5, RF.is No (Value.string (strOf (minP n))), RF.is No (Value.bool false), RF.is No (Value.bool false)] : List (RF No)).getD i_ (RF.any No)) (fun _ w_ => True) (fun v18 => [(eI n), undef, (z 2), u5, (eN i), (eN (orb (n % 255).toNat k)), (eN k), (Value.bool true), (Value.bool false), (eI n), u5, u5, (Value.string (strOf (minP n))), (eI n), (v7 3), (Value.string (strOf (minP n))), (Value.bool false), (Value.bool false), u5, (eN ((minP n).length)), (Value.bool false), (Value.bool false), (eN i), u5, (eN ((minP n).length)), (Value.bool (decide (i < ((minP n).length)))), (z 26), (z 27), (z 28), (z 29), (z 30), (z 31), (z 32), (eI n), (eN ((n % ((255 : Nat) : Int)).toNat)), (eN k), (Value.bool (decide (k < 8))), (z 37), (z 38), (v18 0), (v18 1), (v18 2), (v18 3), (v18 4), (v18 5), (v18 6), (v18 7), (v18 8), (v18 9), (v18 10), (v18 11), (v18 12), (z 52), (z 53), (z 54)]) s_mx (by kernel_rfl) rfl (by decide) (by rfl) (fun v_ => by kernel_rfl) (fun _ => fun _ _ _ _ => trivial) trivial ?_ ?_ ?_
          · skip
            refine ls_cons ?_ ?_
            · intro v18 lo hi w_ k_ hO hd _ _ hk_ _ hR hold
              clear hd hold
              refine ⟨_, rfl, gd rfl ?_⟩
              exact Does.is (d_move (v := u5) rfl)
            refine ls_cons ?_ ?_
            · intro v18 lo hi w_ k_ hO hd _ _ hk_ _ hR hold
              clear hd hold
              refine ⟨_, rfl, gd rfl ?_⟩
              exact Does.is (d_move (v := (eN (orb (n % 255).toNat k))) rfl)
            refine ls_cons ?_ ?_
            · intro v18 lo hi w_ k_ hO hd _ _ hk_ _ hR hold
              have e1 : v18 1 = (eN (orb (n % 255).toNat k)) := hd 1 (by kernel_rfl)
              clear hd hold
              refine ⟨_, rfl, gd rfl ?_⟩
              exact d_call (xl := [.tmp 40]) (al := [(eN (orb (n % 255).toNat k))]) Try.func15 (by kernel_rfl) rfl (show ([(v18 1)] : List Value) = [(eN (orb (n % 255).toNat k))] from by rw [e1]) rfl (ref2Exp_ok ((orb (n % 255).toNat k : Nat) : Int) _)
            refine ls_cons ?_ ?_
            · intro v18 lo hi w_ k_ hO hd _ _ hk_ _ hR hold
              have e0 : v18 0 = u5 := hd 0 (by kernel_rfl)
              have e2 : v18 2 = (eB (exI ((orb (n % 255).toNat k : Nat) : Int))) := hd 2 (by kernel_rfl)
              clear hd hold
              refine ⟨_, rfl, gd rfl ?_⟩
              exact d_call (xl := [.tmp 39, .tmp 41]) (al := [u5, (eB (exI ((orb (n % 255).toNat k : Nat) : Int)))]) Try.func14 (by kernel_rfl) rfl (show ([(v18 0), (v18 2)] : List Value) = [u5, (eB (exI ((orb (n % 255).toNat k : Nat) : Int)))] from by rw [e0, e2]) rfl (eval_ok (minP n) u5 (exI ((orb (n % 255).toNat k : Nat) : Int)) _ (Ps.no (f6.step hO no_any)) (by have := minP_le n; first | omega | (simp; done) | (simp; omega)))
            refine ls_cons ?_ ?_
            · intro v18 lo hi w_ k_ hO hd _ _ hk_ _ hR hold
              have e3 : v18 3 = (eB (evP (minP n) (exI ((orb (n % 255).toNat k : Nat) : Int)))) := hd 3 (by kernel_rfl)
              clear hd hold
              refine ⟨_, rfl, gd rfl ?_⟩
              exact Does.is (b_neq (c := (evP (minP n) (exI ((orb (n % 255).toNat k : Nat) : Int)))) (e := 0) e3 rfl (by rw [decide_eq_true (minP_root n k)]; rfl))
            refine ls_cons ?_ ?_
            · intro v18 lo hi w_ k_ hO hd _ _ hk_ _ hR hold
              have e4 : v18 4 = (Value.bool false) := hd 4 (by kernel_rfl)
              clear hd hold
              refine ⟨_, rfl, gd rfl ?_⟩
              exact Does.is (d_move (v := (Value.bool false)) e4)
            refine ls_cons ?_ ?_
            · intro v18 lo hi w_ k_ hO hd _ _ hk_ _ hR hold
              have e5 : v18 5 = (Value.bool false) := hd 5 (by kernel_rfl)
              clear hd hold
              refine ⟨_, rfl, gd_on rfl rfl rfl (Nat.le_of_ble_eq_true rfl) e5 ?_⟩
              exact Does.is (d_move (v := (eN (orb (n % 255).toNat k))) rfl)
            refine ls_cons ?_ ?_
            · intro v18 lo hi w_ k_ hO hd _ _ hk_ _ hR hold
              have e5 : v18 5 = (Value.bool false) := hd 5 (by kernel_rfl)
              have e6 : v18 6 = (eN (orb (n % 255).toNat k)) := hd 6 (by kernel_rfl)
              clear hd hold
              refine ⟨_, rfl, gd_on rfl rfl rfl (Nat.le_of_ble_eq_true rfl) e5 ?_⟩
              refine Does.mono (R := RPs (Seq kB (minP ((orb (n % 255).toNat k : Nat) : Int))) w_) ?_ (fun u w' h => ⟨(h).1.less (old_old (Nat.le_trans oW.size hO.size)), (h).2⟩)
              exact d_call (xl := [.tmp 45]) (al := [(eN (orb (n % 255).toNat k))]) Try.func11 (by kernel_rfl) rfl (show ([(v18 6)] : List Value) = [(eN (orb (n % 255).toNat k))] from by rw [e6]) rfl (minimal_ok ((orb (n % 255).toNat k : Nat) : Int) _)
            refine ls_cons ?_ ?_
            · intro v18 lo hi w_ k_ hO hd _ _ hk_ _ hR hold
              have e5 : v18 5 = (Value.bool false) := hd 5 (by kernel_rfl)
              have d7 : Ps (Old W.heap.size) (Seq kB (minP ((orb (n % 255).toNat k : Nat) : Int)) (v18 7)) w_ := hd 7 (by kernel_rfl)
              clear hd hold
              refine ⟨_, rfl, gd_on rfl rfl rfl (Nat.le_of_ble_eq_true rfl) e5 ?_⟩
              exact Does.is (d_str Try.underlying23 Try.underlying5 Try.underlying9 rfl d7)
            refine ls_cons ?_ ?_
            · intro v18 lo hi w_ k_ hO hd _ _ hk_ _ hR hold
              have e5 : v18 5 = (Value.bool false) := hd 5 (by kernel_rfl)
              clear hd hold
              refine ⟨_, rfl, gd_on rfl rfl rfl (Nat.le_of_ble_eq_true rfl) e5 ?_⟩
              exact Does.is (d_move (v := u5) rfl)
            refine ls_cons ?_ ?_
            · intro v18 lo hi w_ k_ hO hd _ _ hk_ _ hR hold
              have e5 : v18 5 = (Value.bool false) := hd 5 (by kernel_rfl)
              have e9 : v18 9 = u5 := hd 9 (by kernel_rfl)
              clear hd hold
              refine ⟨_, rfl, gd_on rfl rfl rfl (Nat.le_of_ble_eq_true rfl) e5 ?_⟩
              exact Does.is (d_str Try.underlying23 Try.underlying5 Try.underlying9 e9 (f6.step hO no_any))
            refine ls_cons ?_ ?_
            · intro v18 lo hi w_ k_ hO hd _ _ hk_ _ hR hold
              have e10 : v18 10 = (Value.string (strOf (minP n))) := hd 10 (by kernel_rfl)
              have e5 : v18 5 = (Value.bool false) := hd 5 (by kernel_rfl)
              have e8 : v18 8 = (Value.string (strOf (minP ((orb (n % 255).toNat k : Nat) : Int)))) := hd 8 (by kernel_rfl)
              clear hd hold
              refine ⟨_, rfl, gd_on rfl rfl rfl (Nat.le_of_ble_eq_true rfl) e5 ?_⟩
              exact Does.is (d_sneq (a := (minP ((orb (n % 255).toNat k : Nat) : Int))) (c := (minP n)) e8 e10 (by rw [decide_eq_true (minP_orb n k)]; rfl))
            refine ls_cons ?_ ?_
            · intro v18 lo hi w_ k_ hO hd _ _ hk_ _ hR hold
              have e11 : v18 11 = (Value.bool false) := hd 11 (by kernel_rfl)
              have e5 : v18 5 = (Value.bool false) := hd 5 (by kernel_rfl)
              clear hd hold
              refine ⟨_, rfl, gd rfl ?_⟩
              exact Does.is (d_pick (b := false) (v := (Value.bool false)) e5 e11)
            exact ls_nil
          · skip
            exact ms_nil
          intro v18 lo_ hi_ w19 o20 hd iv_ hR
          have e0 : v18 0 = u5 := hd 0 (by decide)
          have e1 : v18 1 = (eN (orb (n % 255).toNat k)) := hd 1 (by decide)
          have e2 : v18 2 = (eB (exI ((orb (n % 255).toNat k : Nat) : Int))) := hd 2 (by decide)
          have e3 : v18 3 = (eB (evP (minP n) (exI ((orb (n % 255).toNat k : Nat) : Int)))) := hd 3 (by decide)
          have e4 : v18 4 = (Value.bool false) := hd 4 (by decide)
          have e5 : v18 5 = (Value.bool false) := hd 5 (by decide)
          have e6 : v18 6 = (eN (orb (n % 255).toNat k)) := hd 6 (by decide)
          have e8 : v18 8 = (Value.string (strOf (minP ((orb (n % 255).toNat k : Nat) : Int)))) := hd 8 (by decide)
          have e9 : v18 9 = u5 := hd 9 (by decide)
          have e10 : v18 10 = (Value.string (strOf (minP n))) := hd 10 (by decide)
          have e11 : v18 11 = (Value.bool false) := hd 11 (by decide)
          have e12 : v18 12 = (Value.bool false) := hd 12 (by decide)
          have f_v18_7 : Ps (Old W.heap.size) (Seq kB (minP ((orb (n % 255).toNat k : Nat) : Int)) (v18 7)) w19 := hd 7 (by decide)
          clear hd iv_ lo_ hi_
          refine fr_eq (l' := [(eI n), undef, (z 2), u5, (eN i), (eN (orb (n % 255).toNat k)), (eN k), (Value.bool true), (Value.bool false), (eI n), u5, u5, (Value.string (strOf (minP n))), (eI n), (v7 3), (Value.string (strOf (minP n))), (Value.bool false), (Value.bool false), u5, (eN ((minP n).length)), (Value.bool false), (Value.bool false), (eN i), u5, (eN ((minP n).length)), (Value.bool (decide (i < ((minP n).length)))), (z 26), (z 27), (z 28), (z 29), (z 30), (z 31), (z 32), (eI n), (eN ((n % ((255 : Nat) : Int)).toNat)), (eN k), (Value.bool (decide (k < 8))), (z 37), (z 38), u5, (eN (orb (n % 255).toNat k)), (eB (exI ((orb (n % 255).toNat k : Nat) : Int))), (eB (evP (minP n) (exI ((orb (n % 255).toNat k : Nat) : Int)))), (Value.bool false), (Value.bool false), (eN (orb (n % 255).toNat k)), (v18 7), (Value.string (strOf (minP ((orb (n % 255).toNat k : Nat) : Int)))), u5, (Value.string (strOf (minP n))), (Value.bool false), (Value.bool false), (z 52), (z 53), (z 54)]) (by rw [e0, e1, e2, e3, e4, e5, e6, e8, e9, e10, e11, e12]) ?_
          clear e0 e1 e2 e3 e4 e5 e6 e8 e9 e10 e11 e12
          replace f6 := f6.step o20 no_any
          replace f_v7_3 := f_v7_3.step o20 no_any
          clear hR
          replace oW := oW.tail o20 tl_no
          replace o10 := o10.tail o20 tl_no
          replace o16 := o16.tail o20 tl_no
          refine then_n ?_
          refine cond_f rfl ?_
          refine wpIn_skip ?_
          refine then_n ?_
          refine plain ?_
          refine wpL.is (v := (eN (orb (n % 255).toNat k))) rfl (d_move (v := (eN (orb (n % 255).toNat k))) rfl) ?_
          refine wpL.is (v := (eN (2 * (orb (n % 255).toNat k)))) rfl (n_mul (a := 2) (b := (orb (n % 255).toNat k)) rfl rfl (by have := orb_lt (n % 255).toNat k; omega)) ?_
          refine wpL.is (v := (eN ((2 * (orb (n % 255).toNat k)) % 255))) rfl (n_rem (a := (2 * (orb (n % 255).toNat k))) (b := 255) rfl rfl (by decide)) ?_
          refine wpL.flat [(eI n), undef, (z 2), u5, (eN i), (eN (orb (n % 255).toNat k)), (eN k), (Value.bool true), (Value.bool false), (eI n), u5, u5, (Value.string (strOf (minP n))), (eI n), (v7 3), (Value.string (strOf (minP n))), (Value.bool false), (Value.bool false), u5, (eN ((minP n).length)), (Value.bool false), (Value.bool false), (eN i), u5, (eN ((minP n).length)), (Value.bool (decide (i < ((minP n).length)))), (z 26), (z 27), (z 28), (z 29), (z 30), (z 31), (z 32), (eI n), (eN ((n % ((255 : Nat) : Int)).toNat)), (eN k), (Value.bool (decide (k < 8))), (z 37), (z 38), u5, (eN (orb (n % 255).toNat k)), (eB (exI ((orb (n % 255).toNat k : Nat) : Int))), (eB (evP (minP n) (exI ((orb (n % 255).toNat k : Nat) : Int)))), (Value.bool false), (Value.bool false), (eN (orb (n % 255).toNat k)), (v18 7), (Value.string (strOf (minP ((orb (n % 255).toNat k : Nat) : Int)))), u5, (Value.string (strOf (minP n))), (Value.bool false), (Value.bool false), (eN (orb (n % 255).toNat k)), (eN (2 * (orb (n % 255).toNat k))), (eN ((2 * (orb (n % 255).toNat k)) % 255))] (by kernel_rfl) ?_
          refine wpL.is (v := (eN ((2 * (orb (n % 255).toNat k)) % 255))) rfl (d_assign (v := (eN ((2 * (orb (n % 255).toNat k)) % 255))) rfl) ?_
          refine wpL.flat [(eI n), undef, (z 2), u5, (eN i), (eN ((2 * (orb (n % 255).toNat k)) % 255)), (eN k), (Value.bool true), (Value.bool false), (eI n), u5, u5, (Value.string (strOf (minP n))), (eI n), (v7 3), (Value.string (strOf (minP n))), (Value.bool false), (Value.bool false), u5, (eN ((minP n).length)), (Value.bool false), (Value.bool false), (eN i), u5, (eN ((minP n).length)), (Value.bool (decide (i < ((minP n).length)))), (z 26), (z 27), (z 28), (z 29), (z 30), (z 31), (z 32), (eI n), (eN ((n % ((255 : Nat) : Int)).toNat)), (eN k), (Value.bool (decide (k < 8))), (z 37), (z 38), u5, (eN (orb (n % 255).toNat k)), (eB (exI ((orb (n % 255).toNat k : Nat) : Int))), (eB (evP (minP n) (exI ((orb (n % 255).toNat k : Nat) : Int)))), (Value.bool false), (Value.bool false), (eN (orb (n % 255).toNat k)), (v18 7), (Value.string (strOf (minP ((orb (n % 255).toNat k : Nat) : Int)))), u5, (Value.string (strOf (minP n))), (Value.bool false), (Value.bool false), (eN (orb (n % 255).toNat k)), (eN (2 * (orb (n % 255).toNat k))), (eN ((2 * (orb (n % 255).toNat k)) % 255))] (by kernel_rfl) ?_
          refine wpL.done ?_
          refine inb_n (then_n ?_)
          refine plain ?_
          refine wpL.is (v := (eN k)) rfl (d_move (v := (eN k)) rfl) ?_
          refine wpL.is (v := (eN (k + 1))) rfl (n_add (a := k) (b := 1) rfl rfl (by omega)) ?_
          refine wpL.is (v := (eN (k + 1))) rfl (d_assign (v := (eN (k + 1))) rfl) ?_
          refine wpL.flat [(eI n), undef, (z 2), u5, (eN i), (eN ((2 * (orb (n % 255).toNat k)) % 255)), (eN (k + 1)), (Value.bool true), (Value.bool false), (eI n), u5, u5, (Value.string (strOf (minP n))), (eI n), (v7 3), (Value.string (strOf (minP n))), (Value.bool false), (Value.bool false), u5, (eN ((minP n).length)), (Value.bool false), (Value.bool false), (eN i), u5, (eN ((minP n).length)), (Value.bool (decide (i < ((minP n).length)))), (z 26), (z 27), (z 28), (z 29), (z 30), (z 31), (z 32), (eI n), (eN ((n % ((255 : Nat) : Int)).toNat)), (eN k), (Value.bool (decide (k < 8))), (eN k), (eN (k + 1)), u5, (eN (orb (n % 255).toNat k)), (eB (exI ((orb (n % 255).toNat k : Nat) : Int))), (eB (evP (minP n) (exI ((orb (n % 255).toNat k : Nat) : Int)))), (Value.bool false), (Value.bool false), (eN (orb (n % 255).toNat k)), (v18 7), (Value.string (strOf (minP ((orb (n % 255).toNat k : Nat) : Int)))), u5, (Value.string (strOf (minP n))), (Value.bool false), (Value.bool false), (eN (orb (n % 255).toNat k)), (eN (2 * (orb (n % 255).toNat k))), (eN ((2 * (orb (n % 255).toNat k)) % 255))] (by kernel_rfl) ?_
          refine wpL.done ?_
          refine then_n ?_
          refine ⟨[(eI n), undef, (z 2), u5, (eN i), (eN (orb (n % 255).toNat (k + 1))), (eN (k + 1)), (Value.bool true), (Value.bool false), (eI n), u5, u5, (Value.string (strOf (minP n))), (eI n), (v7 3), (Value.string (strOf (minP n))), (Value.bool false), (Value.bool false), u5, (eN ((minP n).length)), (Value.bool false), (Value.bool false), (eN i), u5, (eN ((minP n).length)), (Value.bool (decide (i < ((minP n).length)))), (z 26), (z 27), (z 28), (z 29), (z 30), (z 31), (z 32), (eI n), (eN ((n % ((255 : Nat) : Int)).toNat)), (eN k), (Value.bool (decide (k < 8))), (eN k), (eN (k + 1)), u5, (eN (orb (n % 255).toNat k)), (eB (exI ((orb (n % 255).toNat k : Nat) : Int))), (eB (evP (minP n) (exI ((orb (n % 255).toNat k : Nat) : Int)))), (Value.bool false), (Value.bool false), (eN (orb (n % 255).toNat k)), (v18 7), (Value.string (strOf (minP ((orb (n % 255).toNat k : Nat) : Int)))), u5, (Value.string (strOf (minP n))), (Value.bool false), (Value.bool false), (eN (orb (n % 255).toNat k)), (eN (2 * (orb (n % 255).toNat k))), (eN ((2 * (orb (n % 255).toNat k)) % 255))], (k + 1), (congrArg (fun l_ => fr l_ _) (show ([(eI n), undef, (z 2), u5, (eN i), (eN ((2 * (orb (n % 255).toNat k)) % 255)), (eN (k + 1)), (Value.bool true), (Value.bool false), (eI n), u5, u5, (Value.string (strOf (minP n))), (eI n), (v7 3), (Value.string (strOf (minP n))), (Value.bool false), (Value.bool false), u5, (eN ((minP n).length)), (Value.bool false), (Value.bool false), (eN i), u5, (eN ((minP n).length)), (Value.bool (decide (i < ((minP n).length)))), (z 26), (z 27), (z 28), (z 29), (z 30), (z 31), (z 32), (eI n), (eN ((n % ((255 : Nat) : Int)).toNat)), (eN k), (Value.bool (decide (k < 8))), (eN k), (eN (k + 1)), u5, (eN (orb (n % 255).toNat k)), (eB (exI ((orb (n % 255).toNat k : Nat) : Int))), (eB (evP (minP n) (exI ((orb (n % 255).toNat k : Nat) : Int)))), (Value.bool false), (Value.bool false), (eN (orb (n % 255).toNat k)), (v18 7), (Value.string (strOf (minP ((orb (n % 255).toNat k : Nat) : Int)))), u5, (Value.string (strOf (minP n))), (Value.bool false), (Value.bool false), (eN (orb (n % 255).toNat k)), (eN (2 * (orb (n % 255).toNat k))), (eN ((2 * (orb (n % 255).toNat k)) % 255))] : List Value) = [(eI n), undef, (z 2), u5, (eN i), (eN (orb (n % 255).toNat (k + 1))), (eN (k + 1)), (Value.bool true), (Value.bool false), (eI n), u5, u5, (Value.string (strOf (minP n))), (eI n), (v7 3), (Value.string (strOf (minP n))), (Value.bool false), (Value.bool false), u5, (eN ((minP n).length)), (Value.bool false), (Value.bool false), (eN i), u5, (eN ((minP n).length)), (Value.bool (decide (i < ((minP n).length)))), (z 26), (z 27), (z 28), (z 29), (z 30), (z 31), (z 32), (eI n), (eN ((n % ((255 : Nat) : Int)).toNat)), (eN k), (Value.bool (decide (k < 8))), (eN k), (eN (k + 1)), u5, (eN (orb (n % 255).toNat k)), (eB (exI ((orb (n % 255).toNat k : Nat) : Int))), (eB (evP (minP n) (exI ((orb (n % 255).toNat k : Nat) : Int)))), (Value.bool false), (Value.bool false), (eN (orb (n % 255).toNat k)), (v18 7), (Value.string (strOf (minP ((orb (n % 255).toNat k : Nat) : Int)))), u5, (Value.string (strOf (minP n))), (Value.bool false), (Value.bool false), (eN (orb (n % 255).toNat k)), (eN (2 * (orb (n % 255).toNat k))), (eN ((2 * (orb (n % 255).toNat k)) % 255))] from reslot [(eI n), undef, (z 2), u5, (eN i), (eN ((2 * (orb (n % 255).toNat k)) % 255)), (eN (k + 1)), (Value.bool true), (Value.bool false), (eI n), u5, u5, (Value.string (strOf (minP n))), (eI n), (v7 3), (Value.string (strOf (minP n))), (Value.bool false), (Value.bool false), u5, (eN ((minP n).length)), (Value.bool false), (Value.bool false), (eN i), u5, (eN ((minP n).length)), (Value.bool (decide (i < ((minP n).length)))), (z 26), (z 27), (z 28), (z 29), (z 30), (z 31), (z 32), (eI n), (eN ((n % ((255 : Nat) : Int)).toNat)), (eN k), (Value.bool (decide (k < 8))), (eN k), (eN (k + 1)), u5, (eN (orb (n % 255).toNat k)), (eB (exI ((orb (n % 255).toNat k : Nat) : Int))), (eB (evP (minP n) (exI ((orb (n % 255).toNat k : Nat) : Int)))), (Value.bool false), (Value.bool false), (eN (orb (n % 255).toNat k)), (v18 7), (Value.string (strOf (minP ((orb (n % 255).toNat k : Nat) : Int)))), u5, (Value.string (strOf (minP n))), (Value.bool false), (Value.bool false), (eN (orb (n % 255).toNat k)), (eN (2 * (orb (n % 255).toNat k))), (eN ((2 * (orb (n % 255).toNat k)) % 255))] 5 (congrArg eN (orb_succ (n % 255).toNat k)))), rfl, ⟨?_, ?_⟩, ?_⟩
          · (try dsimp only)
            all_goals (omega)
          · (try dsimp only)
            all_goals (exact o16)
          · (try dsimp only)
            all_goals (omega)
        · skip
          refine wpIn_exit ?_
          refine then_x (then_x (inb_e ?_))
          refine then_n ?_
          refine wpIn_seq ?_
          refine plain ?_
          refine wpL.is (v := (Value.bool true)) rfl (d_assign (v := (Value.bool true)) rfl) ?_
          refine wpL.flat [(eI n), undef, (Value.bool true), u5, (eN i), (eN (orb (n % 255).toNat k)), (eN k), (Value.bool true), (Value.bool false), (eI n), u5, u5, (Value.string (strOf (minP n))), (eI n), (v7 3), (Value.string (strOf (minP n))), (Value.bool false), (Value.bool false), u5, (eN ((minP n).length)), (Value.bool false), (Value.bool false), (eN i), u5, (eN ((minP n).length)), (Value.bool (decide (i < ((minP n).length)))), (z 26), (z 27), (z 28), (z 29), (z 30), (z 31), (z 32), (eI n), (eN ((n % ((255 : Nat) : Int)).toNat)), (eN k), (Value.bool (decide (k < 8))), (z 37), (z 38), (z 39), (z 40), (z 41), (z 42), (z 43), (z 44), (z 45), (z 46), (z 47), (z 48), (z 49), (z 50), (z 51), (z 52), (z 53), (z 54)] (by kernel_rfl) ?_
          refine wpL.done ?_
          refine then_n ?_
          refine wpIn_ret ?_
          refine leave0 (v := (Value.bool true)) (res1 Try.results3 rfl) ?_
          exact ⟨rfl, oW⟩

set_option maxRecDepth 20000 in
set_option maxHeartbeats 4000000 in
theorem polyTrims_ok (la lb : List UInt8) (n : Int) (x : UInt8) (u1 u2 : Value) (W : World) (h1 : Ps No (Seq kB la u1) W) (h2 : Ps No (Seq kB lb u2) W) :
    CW Try.prog 6 #[u1, u2, (eI n), (eB x)] W (Rt (RIs (.bool true) W)) := by
  have oW : Only No W W := Only.refl _ _
  refine enter (al := [u1, u2, (eI n), (eB x)]) (k := 93) (l := [u1, u2, (eI n), (eB x), undef, undef, undef, undef, undef, undef, undef, undef, undef, undef, undef, undef, undef, undef, undef, undef, undef, undef, undef, undef, undef, undef, undef, undef, undef, undef, undef, undef, undef, undef, undef, undef, undef, undef, undef, undef, undef, undef, undef, undef, undef, undef, undef, undef, undef, undef, undef, undef, undef, undef, undef, undef, undef, undef, undef, undef, undef, undef, undef, undef, undef, undef, undef, undef, undef, undef, undef, undef, undef, undef, undef, undef, undef, undef, undef, undef, undef, undef, undef, undef, undef, undef, undef, undef, undef, undef, undef, undef, undef, undef, undef, undef, undef]) Try.func6 rfl Try.ntmps6 rfl rfl ?_
  refine wpIn_seq ?_
  refine plain ?_
  refine wpL.is (v := (Value.bool false)) rfl (d_assign (v := (Value.bool false)) rfl) ?_
  refine wpL.flat [u1, u2, (eI n), (eB x), undef, undef, undef, undef, (Value.bool false), undef, undef, undef, undef, undef, undef, undef, undef, undef, undef, undef, undef, undef, undef, undef, undef, undef, undef, undef, undef, undef, undef, undef, undef, undef, undef, undef, undef, undef, undef, undef, undef, undef, undef, undef, undef, undef, undef, undef, undef, undef, undef, undef, undef, undef, undef, undef, undef, undef, undef, undef, undef, undef, undef, undef, undef, undef, undef, undef, undef, undef, undef, undef, undef, undef, undef, undef, undef, undef, undef, undef, undef, undef, undef, undef, undef, undef, undef, undef, undef, undef, undef, undef, undef, undef, undef, undef, undef] (by kernel_rfl) ?_
  refine wpL.done ?_
  refine then_n ?_
  refine wpIn_seq ?_
  refine wpIn_seq ?_
  refine plain ?_
  refine wpL.op rfl (d_call (xl := []) (al := []) Try.func10 (by kernel_rfl) rfl rfl rfl (known_ok _)) ?_
  rintro _ w1 ⟨rfl, o2⟩
  replace h1 := h1.step0 o2
  replace h2 := h2.step0 o2
  replace oW := oW.tail0 o2
  refine wpL.is (v := (Value.bool false)) rfl (d_not rfl rfl) ?_
  refine wpL.flat [u1, u2, (eI n), (eB x), undef, undef, undef, undef, (Value.bool false), undef, undef, undef, undef, undef, undef, undef, (Value.bool true), (Value.bool false), undef, undef, undef, undef, undef, undef, undef, undef, undef, undef, undef, undef, undef, undef, undef, undef, undef, undef, undef, undef, undef, undef, undef, undef, undef, undef, undef, undef, undef, undef, undef, undef, undef, undef, undef, undef, undef, undef, undef, undef, undef, undef, undef, undef, undef, undef, undef, undef, undef, undef, undef, undef, undef, undef, undef, undef, undef, undef, undef, undef, undef, undef, undef, undef, undef, undef, undef, undef, undef, undef, undef, undef, undef, undef, undef, undef, undef, undef, undef] (by kernel_rfl) ?_
  refine wpL.done ?_
  refine then_n ?_
  refine cond_f rfl ?_
  refine wpIn_skip ?_
  refine then_n ?_
  refine wpIn_seq ?_
  refine wpIn_seq ?_
  by_cases k1 : 20 < la.length
  · skip
    refine plain ?_
    refine wpL.is (v := u1) rfl (d_move (v := u1) rfl) ?_
    refine wpL.is (v := (eN la.length)) rfl (d_lenS rfl Try.underlying23 rfl h1) ?_
    refine wpL.is (v := (Value.bool true)) rfl (n_gtr (a := la.length) (b := 20) rfl rfl (decide_eq_true k1)) ?_
    refine wpL.flat [u1, u2, (eI n), (eB x), undef, undef, undef, undef, (Value.bool false), undef, undef, undef, undef, undef, undef, undef, (Value.bool true), (Value.bool false), u1, (eN la.length), (Value.bool true), undef, undef, undef, undef, undef, undef, undef, undef, undef, undef, undef, undef, undef, undef, undef, undef, undef, undef, undef, undef, undef, undef, undef, undef, undef, undef, undef, undef, undef, undef, undef, undef, undef, undef, undef, undef, undef, undef, undef, undef, undef, undef, undef, undef, undef, undef, undef, undef, undef, undef, undef, undef, undef, undef, undef, undef, undef, undef, undef, undef, undef, undef, undef, undef, undef, undef, undef, undef, undef, undef, undef, undef, undef, undef, undef, undef] (by kernel_rfl) ?_
    refine wpL.is (v := (Value.bool true)) rfl (d_move (v := (Value.bool true)) rfl) ?_
    refine wpL.off rfl rfl rfl (Nat.le_of_ble_eq_true rfl) rfl ?_
    refine wpL.flat [u1, u2, (eI n), (eB x), undef, undef, undef, undef, (Value.bool false), undef, undef, undef, undef, undef, undef, undef, (Value.bool true), (Value.bool false), u1, (eN la.length), (Value.bool true), (Value.bool true), undef, undef, undef, undef, undef, undef, undef, undef, undef, undef, undef, undef, undef, undef, undef, undef, undef, undef, undef, undef, undef, undef, undef, undef, undef, undef, undef, undef, undef, undef, undef, undef, undef, undef, undef, undef, undef, undef, undef, undef, undef, undef, undef, undef, undef, undef, undef, undef, undef, undef, undef, undef, undef, undef, undef, undef, undef, undef, undef, undef, undef, undef, undef, undef, undef, undef, undef, undef, undef, undef, undef, undef, undef, undef, undef] (by kernel_rfl) ?_
    refine wpL.off rfl rfl rfl (Nat.le_of_ble_eq_true rfl) rfl ?_
    refine wpL.off rfl rfl rfl (Nat.le_of_ble_eq_true rfl) rfl ?_
    refine wpL.is (v := (Value.bool true)) rfl (d_pick (b := true) (v := (Value.bool true)) rfl rfl) ?_
    refine wpL.flat [u1, u2, (eI n), (eB x), undef, undef, undef, undef, (Value.bool false), undef, undef, undef, undef, undef, undef, undef, (Value.bool true), (Value.bool false), u1, (eN la.length), (Value.bool true), (Value.bool true), undef, undef, undef, (Value.bool true), undef, undef, undef, undef, undef, undef, undef, undef, undef, undef, undef, undef, undef, undef, undef, undef, undef, undef, undef, undef, undef, undef, undef, undef, undef, undef, undef, undef, undef, undef, undef, undef, undef, undef, undef, undef, undef, undef, undef, undef, undef, undef, undef, undef, undef, undef, undef, undef, undef, undef, undef, undef, undef, undef, undef, undef, undef, undef, undef, undef, undef, undef, undef, undef, undef, undef, undef, undef, undef, undef, undef] (by kernel_rfl) ?_
    refine wpL.done ?_
    refine then_n ?_
    refine cond_t rfl ?_
    refine wpIn_seq ?_
    refine plain ?_
    refine wpL.is (v := (Value.bool true)) rfl (d_assign (v := (Value.bool true)) rfl) ?_
    refine wpL.flat [u1, u2, (eI n), (eB x), undef, undef, undef, undef, (Value.bool true), undef, undef, undef, undef, undef, undef, undef, (Value.bool true), (Value.bool false), u1, (eN la.length), (Value.bool true), (Value.bool true), undef, undef, undef, (Value.bool true), undef, undef, undef, undef, undef, undef, undef, undef, undef, undef, undef, undef, undef, undef, undef, undef, undef, undef, undef, undef, undef, undef, undef, undef, undef, undef, undef, undef, undef, undef, undef, undef, undef, undef, undef, undef, undef, undef, undef, undef, undef, undef, undef, undef, undef, undef, undef, undef, undef, undef, undef, undef, undef, undef, undef, undef, undef, undef, undef, undef, undef, undef, undef, undef, undef, undef, undef, undef, undef, undef, undef] (by kernel_rfl) ?_
    refine wpL.done ?_
    refine then_n ?_
    refine wpIn_ret ?_
    refine then_r ?_
    refine leave0 (v := (Value.bool true)) (res1 Try.results6 rfl) ?_
    exact ⟨rfl, oW⟩
  · skip
    refine plain ?_
    refine wpL.is (v := u1) rfl (d_move (v := u1) rfl) ?_
    refine wpL.is (v := (eN la.length)) rfl (d_lenS rfl Try.underlying23 rfl h1) ?_
    refine wpL.is (v := (Value.bool false)) rfl (n_gtr (a := la.length) (b := 20) rfl rfl (decide_eq_false k1)) ?_
    refine wpL.flat [u1, u2, (eI n), (eB x), undef, undef, undef, undef, (Value.bool false), undef, undef, undef, undef, undef, undef, undef, (Value.bool true), (Value.bool false), u1, (eN la.length), (Value.bool false), undef, undef, undef, undef, undef, undef, undef, undef, undef, undef, undef, undef, undef, undef, undef, undef, undef, undef, undef, undef, undef, undef, undef, undef, undef, undef, undef, undef, undef, undef, undef, undef, undef, undef, undef, undef, undef, undef, undef, undef, undef, undef, undef, undef, undef, undef, undef, undef, undef, undef, undef, undef, undef, undef, undef, undef, undef, undef, undef, undef, undef, undef, undef, undef, undef, undef, undef, undef, undef, undef, undef, undef, undef, undef, undef, undef] (by kernel_rfl) ?_
    refine wpL.is (v := (Value.bool false)) rfl (d_move (v := (Value.bool false)) rfl) ?_
    refine wpL.onis (v := u2) rfl rfl rfl (Nat.le_of_ble_eq_true rfl) rfl (d_move (v := u2) rfl) ?_
    refine wpL.onis (v := (eN lb.length)) rfl rfl rfl (Nat.le_of_ble_eq_true rfl) rfl (d_lenS rfl Try.underlying23 rfl h2) ?_
    refine wpL.flat [u1, u2, (eI n), (eB x), undef, undef, undef, undef, (Value.bool false), undef, undef, undef, undef, undef, undef, undef, (Value.bool true), (Value.bool false), u1, (eN la.length), (Value.bool false), (Value.bool false), u2, (eN lb.length), undef, undef, undef, undef, undef, undef, undef, undef, undef, undef, undef, undef, undef, undef, undef, undef, undef, undef, undef, undef, undef, undef, undef, undef, undef, undef, undef, undef, undef, undef, undef, undef, undef, undef, undef, undef, undef, undef, undef, undef, undef, undef, undef, undef, undef, undef, undef, undef, undef, undef, undef, undef, undef, undef, undef, undef, undef, undef, undef, undef, undef, undef, undef, undef, undef, undef, undef, undef, undef, undef, undef, undef, undef] (by kernel_rfl) ?_
    refine wpL.onis (v := (Value.bool (decide (20 < lb.length)))) rfl rfl rfl (Nat.le_of_ble_eq_true rfl) rfl (n_gtr (a := lb.length) (b := 20) rfl rfl rfl) ?_
    refine wpL.is (v := (Value.bool (decide (20 < lb.length)))) rfl (d_pick (b := false) (v := (Value.bool (decide (20 < lb.length)))) rfl rfl) ?_
    refine wpL.flat [u1, u2, (eI n), (eB x), undef, undef, undef, undef, (Value.bool false), undef, undef, undef, undef, undef, undef, undef, (Value.bool true), (Value.bool false), u1, (eN la.length), (Value.bool false), (Value.bool false), u2, (eN lb.length), (Value.bool (decide (20 < lb.length))), (Value.bool (decide (20 < lb.length))), undef, undef, undef, undef, undef, undef, undef, undef, undef, undef, undef, undef, undef, undef, undef, undef, undef, undef, undef, undef, undef, undef, undef, undef, undef, undef, undef, undef, undef, undef, undef, undef, undef, undef, undef, undef, undef, undef, undef, undef, undef, undef, undef, undef, undef, undef, undef, undef, undef, undef, undef, undef, undef, undef, undef, undef, undef, undef, undef, undef, undef, undef, undef, undef, undef, undef, undef, undef, undef, undef, undef] (by kernel_rfl) ?_
    refine wpL.done ?_
    refine then_n ?_
    refine cond_if rfl (fun k2 => ?_) (fun k2 => ?_)
    · skip
      refine wpIn_seq ?_
      refine plain ?_
      refine wpL.is (v := (Value.bool true)) rfl (d_assign (v := (Value.bool true)) rfl) ?_
      refine wpL.flat [u1, u2, (eI n), (eB x), undef, undef, undef, undef, (Value.bool true), undef, undef, undef, undef, undef, undef, undef, (Value.bool true), (Value.bool false), u1, (eN la.length), (Value.bool false), (Value.bool false), u2, (eN lb.length), (Value.bool (decide (20 < lb.length))), (Value.bool (decide (20 < lb.length))), undef, undef, undef, undef, undef, undef, undef, undef, undef, undef, undef, undef, undef, undef, undef, undef, undef, undef, undef, undef, undef, undef, undef, undef, undef, undef, undef, undef, undef, undef, undef, undef, undef, undef, undef, undef, undef, undef, undef, undef, undef, undef, undef, undef, undef, undef, undef, undef, undef, undef, undef, undef, undef, undef, undef, undef, undef, undef, undef, undef, undef, undef, undef, undef, undef, undef, undef, undef, undef, undef, undef] (by kernel_rfl) ?_
      refine wpL.done ?_
      refine then_n ?_
      refine wpIn_ret ?_
      refine then_r ?_
      refine leave0 (v := (Value.bool true)) (res1 Try.results6 rfl) ?_
      exact ⟨rfl, oW⟩
    · skip
      refine wpIn_skip ?_
      refine then_n ?_
      refine wpIn_seq ?_
      have hz9 := Int.emod_lt_of_pos n (show (0 : Int) < ((9 : Nat) : Int) by omega)
      have hz8 := Int.emod_nonneg n (show ((9 : Nat) : Int) ≠ 0 by omega)
      refine plain ?_
      refine wpL.op rfl (d_buildL (cs := []) Try.underlying23 s_ti5 rfl (Nat.le_of_ble_eq_true rfl) parts_nil rfl) ?_
      rintro _ w4 ⟨b3, rfl, g5, a6, o7⟩
      replace a6 : Arr 5 b3 (([] : List UInt8).map eB) w4 := a6
      have l_b3 : ([] : List UInt8).length = 0 := rfl
      have g_oW_b3 : W.heap.size ≤ b3 := Nat.le_trans oW.size g5
      replace h1 := h1.new o7 g5
      replace h2 := h2.new o7 g5
      replace oW := oW.tail0 o7
      refine wpL.is (v := u1) rfl (d_move (v := u1) rfl) ?_
      have a8 := Ow.of_map2 a6 l_b3
      have q_oW_c : Fr (some b3) none W.heap.size := Fr.new g_oW_b3
      replace h1 := h1.less (Y := (Orq (some b3) No)) (xx_br xx_id)
      replace h2 := h2.less (Y := (Orq (some b3) No)) (xx_br xx_id)
      refine wpL.op rfl (d_append Try.underlying23 Try.underlying23 s_ti5 rfl rfl rfl a8 (SrcV.of_seq h1 (fun _ => rfl)) (by simp; omega) (by simp; omega) rfl) ?_
      rintro u9 w10 ⟨bo11, a12, o13, q14⟩
      replace a12 : Ow 5 1 bo11 u9 (la).length ((la).map eB) w10 := by simpa using a12
      replace h1 := h1.gr o13 (fun k e => (.inl e)) (xx_re (Fr.of_or q14) xx_id)
      replace h2 := h2.gr o13 (fun k e => (.inl e)) (xx_re (Fr.of_or q14) xx_id)
      have tq := oW.size
      replace oW := oW.tailr o13 q_oW_c (fun _ e => by cases e)
      replace q_oW_c := qtr (Fr.of_or q14) q_oW_c tq
      clear tq
      refine wpL.flat [u1, u2, (eI n), (eB x), undef, undef, undef, undef, (Value.bool false), undef, undef, undef, undef, undef, undef, undef, (Value.bool true), (Value.bool false), u1, (eN la.length), (Value.bool false), (Value.bool false), u2, (eN lb.length), (Value.bool (decide (20 < lb.length))), (Value.bool (decide (20 < lb.length))), (sli b3 0 0 0), u1, u9, undef, undef, undef, undef, undef, undef, undef, undef, undef, undef, undef, undef, undef, undef, undef, undef, undef, undef, undef, undef, undef, undef, undef, undef, undef, undef, undef, undef, undef, undef, undef, undef, undef, undef, undef, undef, undef, undef, undef, undef, undef, undef, undef, undef, undef, undef, undef, undef, undef, undef, undef, undef, undef, undef, undef, undef, undef, undef, undef, undef, undef, undef, undef, undef, undef, undef, undef, undef] (by kernel_rfl) ?_
      refine wpL.is (v := (eI n)) rfl (d_move (v := (eI n)) rfl) ?_
      refine wpL.op rfl (d_call (xl := [.tmp 29, .const (.int .i64 9)]) (al := [(eI n), (eN 9)]) Try.func13 (by kernel_rfl) rfl rfl rfl (within_ok n 9 _ (by omega) (by omega))) ?_
      rintro _ w15 ⟨rfl, o16⟩
      replace h1 := h1.step0 o16
      replace h2 := h2.step0 o16
      replace a12 := a12.step0 o16
      replace oW := oW.tail0 o16
      refine wpL.op rfl (d_append0 Try.underlying23 Try.underlying3 s_ti5 rfl rfl rfl rfl a12  (by have := Int.emod_lt_of_pos n (show (0 : Int) < ((9 : Nat) : Int) by omega); omega) (by have := Int.emod_lt_of_pos n (show (0 : Int) < ((9 : Nat) : Int) by omega); omega) rfl) ?_
      rintro u17 w18 ⟨bo19, a20, o21, q22⟩
      replace a20 : Ow 5 1 bo19 u17 (la ++ (List.replicate ((n % ((9 : Nat) : Int)).toNat) 0)).length ((la ++ (List.replicate ((n % ((9 : Nat) : Int)).toNat) 0)).map eB) w18 := by rw [List.length_append, List.map_append, List.map_replicate, List.length_replicate]; exact a20
      replace h1 := h1.gr o21 (fun k e => (.inl e)) (xx_re (Fr.of_or q22) xx_id)
      replace h2 := h2.gr o21 (fun k e => (.inl e)) (xx_re (Fr.of_or q22) xx_id)
      have tq := oW.size
      replace oW := oW.tailr o21 q_oW_c (fun _ e => by cases e)
      replace q_oW_c := qtr (Fr.of_or q22) q_oW_c tq
      clear tq
      refine wpL.flat [u1, u2, (eI n), (eB x), undef, undef, undef, undef, (Value.bool false), undef, undef, undef, undef, undef, undef, undef, (Value.bool true), (Value.bool false), u1, (eN la.length), (Value.bool false), (Value.bool false), u2, (eN lb.length), (Value.bool (decide (20 < lb.length))), (Value.bool (decide (20 < lb.length))), (sli b3 0 0 0), u1, u9, (eI n), (eN ((n % ((9 : Nat) : Int)).toNat)), u17, undef, undef, undef, undef, undef, undef, undef, undef, undef, undef, undef, undef, undef, undef, undef, undef, undef, undef, undef, undef, undef, undef, undef, undef, undef, undef, undef, undef, undef, undef, undef, undef, undef, undef, undef, undef, undef, undef, undef, undef, undef, undef, undef, undef, undef, undef, undef, undef, undef, undef, undef, undef, undef, undef, undef, undef, undef, undef, undef, undef, undef, undef, undef, undef, undef] (by kernel_rfl) ?_
      refine wpL.is (v := u17) rfl (d_assign (v := u17) rfl) ?_
      refine wpL.flat [u1, u2, (eI n), (eB x), undef, undef, undef, undef, (Value.bool false), u17, undef, undef, undef, undef, undef, undef, (Value.bool true), (Value.bool false), u1, (eN la.length), (Value.bool false), (Value.bool false), u2, (eN lb.length), (Value.bool (decide (20 < lb.length))), (Value.bool (decide (20 < lb.length))), (sli b3 0 0 0), u1, u9, (eI n), (eN ((n % ((9 : Nat) : Int)).toNat)), u17, undef, undef, undef, undef, undef, undef, undef, undef, undef, undef, undef, undef, undef, undef, undef, undef, undef, undef, undef, undef, undef, undef, undef, undef, undef, undef, undef, undef, undef, undef, undef, undef, undef, undef, undef, undef, undef, undef, undef, undef, undef, undef, undef, undef, undef, undef, undef, undef, undef, undef, undef, undef, undef, undef, undef, undef, undef, undef, undef, undef, undef, undef, undef, undef, undef] (by kernel_rfl) ?_
      refine wpL.done ?_
      refine then_n ?_
      refine wpIn_seq ?_
      refine plain ?_
      refine wpL.is (v := u17) rfl (d_move (v := u17) rfl) ?_
      refine wpL.is (v := u2) rfl (d_move (v := u2) rfl) ?_
      refine wpL.op rfl (d_call (xl := [.tmp 33, .tmp 34]) (al := [u17, u2]) Try.func21 (by kernel_rfl) rfl rfl rfl (div_ok (la ++ (List.replicate ((n % ((9 : Nat) : Int)).toNat) 0)) lb u17 u2 _ (Ps.no (a20.seq (X := No) (fun _ _ h => h))) (Ps.no h2) (by have := rep_len ((n % ((9 : Nat) : Int)).toNat) 0; first | omega | (simp; done) | (simp; omega)) (by first | omega | (simp; done) | (simp; omega)))) ?_
      rintro _ w23 ⟨u25, u27, rfl, f26, f28, o24⟩
      replace f26 := f26.less (Y := (Orq bo19 (Old W.heap.size))) (orq_old (fun x hx => by subst hx; exact a20.lt) (old_old oW.size))
      replace f28 := f28.less (Y := (Orq bo19 (Old W.heap.size))) (orq_old (fun x hx => by subst hx; exact a20.lt) (old_old oW.size))
      replace h1 := h1.step0 o24
      replace h2 := h2.step0 o24
      replace a20 := a20.step0 o24
      replace oW := oW.tail0 o24
      refine wpL.flat [u1, u2, (eI n), (eB x), undef, undef, undef, undef, (Value.bool false), u17, undef, undef, undef, undef, undef, undef, (Value.bool true), (Value.bool false), u1, (eN la.length), (Value.bool false), (Value.bool false), u2, (eN lb.length), (Value.bool (decide (20 < lb.length))), (Value.bool (decide (20 < lb.length))), (sli b3 0 0 0), u1, u9, (eI n), (eN ((n % ((9 : Nat) : Int)).toNat)), u17, undef, u17, u2, (Value.tuple #[u25, u27, (Value.bool (isP lb))]), undef, undef, undef, undef, undef, undef, undef, undef, undef, undef, undef, undef, undef, undef, undef, undef, undef, undef, undef, undef, undef, undef, undef, undef, undef, undef, undef, undef, undef, undef, undef, undef, undef, undef, undef, undef, undef, undef, undef, undef, undef, undef, undef, undef, undef, undef, undef, undef, undef, undef, undef, undef, undef, undef, undef, undef, undef, undef, undef, undef, undef] (by kernel_rfl) ?_
      refine wpL.is (v := (Value.tuple #[u25, u27, (Value.bool (isP lb))])) rfl (d_move (v := (Value.tuple #[u25, u27, (Value.bool (isP lb))])) rfl) ?_
      refine wpL.is (v := u25) rfl (d_extract (v := u25) rfl rfl) ?_
      refine wpL.is (v := u27) rfl (d_extract (v := u27) rfl rfl) ?_
      refine wpL.flat [u1, u2, (eI n), (eB x), undef, undef, undef, undef, (Value.bool false), u17, undef, undef, undef, undef, undef, undef, (Value.bool true), (Value.bool false), u1, (eN la.length), (Value.bool false), (Value.bool false), u2, (eN lb.length), (Value.bool (decide (20 < lb.length))), (Value.bool (decide (20 < lb.length))), (sli b3 0 0 0), u1, u9, (eI n), (eN ((n % ((9 : Nat) : Int)).toNat)), u17, (Value.tuple #[u25, u27, (Value.bool (isP lb))]), u17, u2, (Value.tuple #[u25, u27, (Value.bool (isP lb))]), u25, u27, undef, undef, undef, undef, undef, undef, undef, undef, undef, undef, undef, undef, undef, undef, undef, undef, undef, undef, undef, undef, undef, undef, undef, undef, undef, undef, undef, undef, undef, undef, undef, undef, undef, undef, undef, undef, undef, undef, undef, undef, undef, undef, undef, undef, undef, undef, undef, undef, undef, undef, undef, undef, undef, undef, undef, undef, undef, undef, undef] (by kernel_rfl) ?_
      refine wpL.is (v := (Value.bool (isP lb))) rfl (d_extract (v := (Value.bool (isP lb))) rfl rfl) ?_
      refine wpL.is (v := u25) rfl (d_assign (v := u25) rfl) ?_
      refine wpL.is (v := u27) rfl (d_assign (v := u27) rfl) ?_
      refine wpL.flat [u1, u2, (eI n), (eB x), undef, undef, undef, undef, (Value.bool false), u17, u25, u27, undef, undef, undef, undef, (Value.bool true), (Value.bool false), u1, (eN la.length), (Value.bool false), (Value.bool false), u2, (eN lb.length), (Value.bool (decide (20 < lb.length))), (Value.bool (decide (20 < lb.length))), (sli b3 0 0 0), u1, u9, (eI n), (eN ((n % ((9 : Nat) : Int)).toNat)), u17, (Value.tuple #[u25, u27, (Value.bool (isP lb))]), u17, u2, (Value.tuple #[u25, u27, (Value.bool (isP lb))]), u25, u27, (Value.bool (isP lb)), undef, undef, undef, undef, undef, undef, undef, undef, undef, undef, undef, undef, undef, undef, undef, undef, undef, undef, undef, undef, undef, undef, undef, undef, undef, undef, undef, undef, undef, undef, undef, undef, undef, undef, undef, undef, undef, undef, undef, undef, undef, undef, undef, undef, undef, undef, undef, undef, undef, undef, undef, undef, undef, undef, undef, undef, undef, undef] (by kernel_rfl) ?_
      refine wpL.is (v := (Value.bool (isP lb))) rfl (d_assign (v := (Value.bool (isP lb))) rfl) ?_
      refine wpL.flat [u1, u2, (eI n), (eB x), undef, undef, undef, undef, (Value.bool false), u17, u25, u27, (Value.bool (isP lb)), undef, undef, undef, (Value.bool true), (Value.bool false), u1, (eN la.length), (Value.bool false), (Value.bool false), u2, (eN lb.length), (Value.bool (decide (20 < lb.length))), (Value.bool (decide (20 < lb.length))), (sli b3 0 0 0), u1, u9, (eI n), (eN ((n % ((9 : Nat) : Int)).toNat)), u17, (Value.tuple #[u25, u27, (Value.bool (isP lb))]), u17, u2, (Value.tuple #[u25, u27, (Value.bool (isP lb))]), u25, u27, (Value.bool (isP lb)), undef, undef, undef, undef, undef, undef, undef, undef, undef, undef, undef, undef, undef, undef, undef, undef, undef, undef, undef, undef, undef, undef, undef, undef, undef, undef, undef, undef, undef, undef, undef, undef, undef, undef, undef, undef, undef, undef, undef, undef, undef, undef, undef, undef, undef, undef, undef, undef, undef, undef, undef, undef, undef, undef, undef, undef, undef, undef] (by kernel_rfl) ?_
      refine wpL.done ?_
      refine then_n ?_
      refine wpIn_seq ?_
      refine plain ?_
      refine wpL.is (v := u1) rfl (d_move (v := u1) rfl) ?_
      refine wpL.op rfl (d_buildL (cs := []) Try.underlying23 s_ti5 rfl (Nat.le_of_ble_eq_true rfl) parts_nil rfl) ?_
      rintro _ w32 ⟨b31, rfl, g33, a34, o35⟩
      replace a34 : Arr 5 b31 (([] : List UInt8).map eB) w32 := a34
      have l_b31 : ([] : List UInt8).length = 0 := rfl
      have nq_c_b31 : ∀ x, bo19 = some x → ¬ x = b31 := fun x hx e => by have := a20.lts x hx; omega
      have g_oW_b31 : W.heap.size ≤ b31 := Nat.le_trans oW.size g33
      replace h1 := h1.new o35 g33
      replace h2 := h2.new o35 g33
      replace f26 := f26.new o35 g33
      replace f28 := f28.new o35 g33
      replace a20 := a20.step0 o35
      replace oW := oW.tail0 o35
      refine wpL.is (v := u2) rfl (d_move (v := u2) rfl) ?_
      refine wpL.flat [u1, u2, (eI n), (eB x), undef, undef, undef, undef, (Value.bool false), u17, u25, u27, (Value.bool (isP lb)), undef, undef, undef, (Value.bool true), (Value.bool false), u1, (eN la.length), (Value.bool false), (Value.bool false), u2, (eN lb.length), (Value.bool (decide (20 < lb.length))), (Value.bool (decide (20 < lb.length))), (sli b3 0 0 0), u1, u9, (eI n), (eN ((n % ((9 : Nat) : Int)).toNat)), u17, (Value.tuple #[u25, u27, (Value.bool (isP lb))]), u17, u2, (Value.tuple #[u25, u27, (Value.bool (isP lb))]), u25, u27, (Value.bool (isP lb)), undef, u1, (sli b31 0 0 0), u2, undef, undef, undef, undef, undef, undef, undef, undef, undef, undef, undef, undef, undef, undef, undef, undef, undef, undef, undef, undef, undef, undef, undef, undef, undef, undef, undef, undef, undef, undef, undef, undef, undef, undef, undef, undef, undef, undef, undef, undef, undef, undef, undef, undef, undef, undef, undef, undef, undef, undef, undef, undef, undef, undef] (by kernel_rfl) ?_
      have a36 := Ow.of_map2 a34 l_b31
      have nqq_c_d := nqq_b1 nq_c_b31
      have q_oW_d : Fr (some b31) none W.heap.size := Fr.new g_oW_b31
      replace h1 := h1.less (Y := (Orq (some b31) (Orq bo19 No))) (xx_br (xx_orq xx_id))
      replace h2 := h2.less (Y := (Orq (some b31) (Orq bo19 No))) (xx_br (xx_orq xx_id))
      replace f26 := f26.less (Y := (Orq (some b31) (Orq bo19 (Old W.heap.size)))) (xx_br (xx_orq xx_id))
      replace f28 := f28.less (Y := (Orq (some b31) (Orq bo19 (Old W.heap.size)))) (xx_br (xx_orq xx_id))
      refine wpL.op rfl (d_append Try.underlying23 Try.underlying23 s_ti5 rfl rfl rfl a36 (SrcV.of_seq h2 (fun _ => rfl)) (by simp; omega) (by simp; omega) rfl) ?_
      rintro u37 w38 ⟨bo39, a40, o41, q42⟩
      replace a40 : Ow 5 1 bo39 u37 (lb).length ((lb).map eB) w38 := by simpa using a40
      replace h1 := h1.gr o41 (fun k e => (.inl e)) (xx_re (Fr.of_or q42) (xx_orq xx_id))
      replace h2 := h2.gr o41 (fun k e => (.inl e)) (xx_re (Fr.of_or q42) (xx_orq xx_id))
      replace f26 := f26.gr o41 (fun k e => (.inl e)) (xx_re (Fr.of_or q42) (xx_orq xx_id))
      replace f28 := f28.gr o41 (fun k e => (.inl e)) (xx_re (Fr.of_or q42) (xx_orq xx_id))
      have lt2 := a20.lts
      replace a20 := a20.step o41 (fun x hx e => nqq_c_d x hx e)
      replace nqq_c_d := nqq_step nqq_c_d (Fr.of_or q42) lt2
      clear lt2
      have tq := oW.size
      replace oW := oW.tailr o41 q_oW_d (fun _ e => by cases e)
      replace q_oW_d := qtr (Fr.of_or q42) q_oW_d tq
      clear tq
      refine wpL.is (v := (eI n)) rfl (d_move (v := (eI n)) rfl) ?_
      refine wpL.op rfl (d_call (xl := [.tmp 44, .const (.int .i64 9)]) (al := [(eI n), (eN 9)]) Try.func13 (by kernel_rfl) rfl rfl rfl (within_ok n 9 _ (by omega) (by omega))) ?_
      rintro _ w43 ⟨rfl, o44⟩
      replace h1 := h1.step0 o44
      replace h2 := h2.step0 o44
      replace f26 := f26.step0 o44
      replace f28 := f28.step0 o44
      replace a20 := a20.step0 o44
      replace a40 := a40.step0 o44
      replace oW := oW.tail0 o44
      refine wpL.flat [u1, u2, (eI n), (eB x), undef, undef, undef, undef, (Value.bool false), u17, u25, u27, (Value.bool (isP lb)), undef, undef, undef, (Value.bool true), (Value.bool false), u1, (eN la.length), (Value.bool false), (Value.bool false), u2, (eN lb.length), (Value.bool (decide (20 < lb.length))), (Value.bool (decide (20 < lb.length))), (sli b3 0 0 0), u1, u9, (eI n), (eN ((n % ((9 : Nat) : Int)).toNat)), u17, (Value.tuple #[u25, u27, (Value.bool (isP lb))]), u17, u2, (Value.tuple #[u25, u27, (Value.bool (isP lb))]), u25, u27, (Value.bool (isP lb)), undef, u1, (sli b31 0 0 0), u2, u37, (eI n), (eN ((n % ((9 : Nat) : Int)).toNat)), undef, undef, undef, undef, undef, undef, undef, undef, undef, undef, undef, undef, undef, undef, undef, undef, undef, undef, undef, undef, undef, undef, undef, undef, undef, undef, undef, undef, undef, undef, undef, undef, undef, undef, undef, undef, undef, undef, undef, undef, undef, undef, undef, undef, undef, undef, undef, undef, undef, undef, undef] (by kernel_rfl) ?_
      refine wpL.op rfl (d_append0 Try.underlying23 Try.underlying3 s_ti5 rfl rfl rfl rfl a40  (by have := Int.emod_lt_of_pos n (show (0 : Int) < ((9 : Nat) : Int) by omega); omega) (by have := Int.emod_lt_of_pos n (show (0 : Int) < ((9 : Nat) : Int) by omega); omega) rfl) ?_
      rintro u45 w46 ⟨bo47, a48, o49, q50⟩
      replace a48 : Ow 5 1 bo47 u45 (lb ++ (List.replicate ((n % ((9 : Nat) : Int)).toNat) 0)).length ((lb ++ (List.replicate ((n % ((9 : Nat) : Int)).toNat) 0)).map eB) w46 := by rw [List.length_append, List.map_append, List.map_replicate, List.length_replicate]; exact a48
      replace h1 := h1.gr o49 (fun k e => (.inl e)) (xx_re (Fr.of_or q50) (xx_orq xx_id))
      replace h2 := h2.gr o49 (fun k e => (.inl e)) (xx_re (Fr.of_or q50) (xx_orq xx_id))
      replace f26 := f26.gr o49 (fun k e => (.inl e)) (xx_re (Fr.of_or q50) (xx_orq xx_id))
      replace f28 := f28.gr o49 (fun k e => (.inl e)) (xx_re (Fr.of_or q50) (xx_orq xx_id))
      have lt2 := a20.lts
      replace a20 := a20.step o49 (fun x hx e => nqq_c_d x hx e)
      replace nqq_c_d := nqq_step nqq_c_d (Fr.of_or q50) lt2
      clear lt2
      have tq := oW.size
      replace oW := oW.tailr o49 q_oW_d (fun _ e => by cases e)
      replace q_oW_d := qtr (Fr.of_or q50) q_oW_d tq
      clear tq
      refine wpL.op rfl (d_call (xl := [.tmp 40, .tmp 46]) (al := [u1, u45]) Try.func21 (by kernel_rfl) rfl rfl rfl (div_ok la (lb ++ (List.replicate ((n % ((9 : Nat) : Int)).toNat) 0)) u1 u45 _ (Ps.no h1) (Ps.no (a48.seq (X := No) (fun _ _ h => h))) (by first | omega | (simp; done) | (simp; omega)) (by have := rep_len ((n % ((9 : Nat) : Int)).toNat) 0; first | omega | (simp; done) | (simp; omega)))) ?_
      rintro _ w51 ⟨u53, u55, rfl, f54, f56, o52⟩
      replace f54 := f54.less (Y := (Orq bo47 (Orq bo19 (Old W.heap.size)))) (orq_old (fun x hx => by subst hx; exact a48.lt) (orq_old (fun x hx => by subst hx; exact a20.lt) (old_old oW.size)))
      replace f56 := f56.less (Y := (Orq bo47 (Orq bo19 (Old W.heap.size)))) (orq_old (fun x hx => by subst hx; exact a48.lt) (orq_old (fun x hx => by subst hx; exact a20.lt) (old_old oW.size)))
      replace h1 := h1.step0 o52
      replace h2 := h2.step0 o52
      replace f26 := f26.step0 o52
      replace f28 := f28.step0 o52
      replace a20 := a20.step0 o52
      replace a48 := a48.step0 o52
      replace oW := oW.tail0 o52
      refine wpL.is (v := (Value.tuple #[u53, u55, (Value.bool (isP (lb ++ (List.replicate ((n % ((9 : Nat) : Int)).toNat) 0))))])) rfl (d_move (v := (Value.tuple #[u53, u55, (Value.bool (isP (lb ++ (List.replicate ((n % ((9 : Nat) : Int)).toNat) 0))))])) rfl) ?_
      refine wpL.flat [u1, u2, (eI n), (eB x), undef, undef, undef, undef, (Value.bool false), u17, u25, u27, (Value.bool (isP lb)), undef, undef, undef, (Value.bool true), (Value.bool false), u1, (eN la.length), (Value.bool false), (Value.bool false), u2, (eN lb.length), (Value.bool (decide (20 < lb.length))), (Value.bool (decide (20 < lb.length))), (sli b3 0 0 0), u1, u9, (eI n), (eN ((n % ((9 : Nat) : Int)).toNat)), u17, (Value.tuple #[u25, u27, (Value.bool (isP lb))]), u17, u2, (Value.tuple #[u25, u27, (Value.bool (isP lb))]), u25, u27, (Value.bool (isP lb)), (Value.tuple #[u53, u55, (Value.bool (isP (lb ++ (List.replicate ((n % ((9 : Nat) : Int)).toNat) 0))))]), u1, (sli b31 0 0 0), u2, u37, (eI n), (eN ((n % ((9 : Nat) : Int)).toNat)), u45, (Value.tuple #[u53, u55, (Value.bool (isP (lb ++ (List.replicate ((n % ((9 : Nat) : Int)).toNat) 0))))]), undef, undef, undef, undef, undef, undef, undef, undef, undef, undef, undef, undef, undef, undef, undef, undef, undef, undef, undef, undef, undef, undef, undef, undef, undef, undef, undef, undef, undef, undef, undef, undef, undef, undef, undef, undef, undef, undef, undef, undef, undef, undef, undef, undef, undef, undef, undef, undef, undef] (by kernel_rfl) ?_
      refine wpL.is (v := u53) rfl (d_extract (v := u53) rfl rfl) ?_
      refine wpL.is (v := u55) rfl (d_extract (v := u55) rfl rfl) ?_
      refine wpL.is (v := (Value.bool (isP (lb ++ (List.replicate ((n % ((9 : Nat) : Int)).toNat) 0))))) rfl (d_extract (v := (Value.bool (isP (lb ++ (List.replicate ((n % ((9 : Nat) : Int)).toNat) 0))))) rfl rfl) ?_
      refine wpL.flat [u1, u2, (eI n), (eB x), undef, undef, undef, undef, (Value.bool false), u17, u25, u27, (Value.bool (isP lb)), undef, undef, undef, (Value.bool true), (Value.bool false), u1, (eN la.length), (Value.bool false), (Value.bool false), u2, (eN lb.length), (Value.bool (decide (20 < lb.length))), (Value.bool (decide (20 < lb.length))), (sli b3 0 0 0), u1, u9, (eI n), (eN ((n % ((9 : Nat) : Int)).toNat)), u17, (Value.tuple #[u25, u27, (Value.bool (isP lb))]), u17, u2, (Value.tuple #[u25, u27, (Value.bool (isP lb))]), u25, u27, (Value.bool (isP lb)), (Value.tuple #[u53, u55, (Value.bool (isP (lb ++ (List.replicate ((n % ((9 : Nat) : Int)).toNat) 0))))]), u1, (sli b31 0 0 0), u2, u37, (eI n), (eN ((n % ((9 : Nat) : Int)).toNat)), u45, (Value.tuple #[u53, u55, (Value.bool (isP (lb ++ (List.replicate ((n % ((9 : Nat) : Int)).toNat) 0))))]), u53, u55, (Value.bool (isP (lb ++ (List.replicate ((n % ((9 : Nat) : Int)).toNat) 0)))), undef, undef, undef, undef, undef, undef, undef, undef, undef, undef, undef, undef, undef, undef, undef, undef, undef, undef, undef, undef, undef, undef, undef, undef, undef, undef, undef, undef, undef, undef, undef, undef, undef, undef, undef, undef, undef, undef, undef, undef, undef, undef, undef, undef, undef, undef] (by kernel_rfl) ?_
      refine wpL.is (v := u53) rfl (d_assign (v := u53) rfl) ?_
      refine wpL.is (v := u55) rfl (d_assign (v := u55) rfl) ?_
      refine wpL.is (v := (Value.bool (isP (lb ++ (List.replicate ((n % ((9 : Nat) : Int)).toNat) 0))))) rfl (d_assign (v := (Value.bool (isP (lb ++ (List.replicate ((n % ((9 : Nat) : Int)).toNat) 0))))) rfl) ?_
      refine wpL.flat [u1, u2, (eI n), (eB x), undef, undef, undef, undef, (Value.bool false), u17, u25, u27, (Value.bool (isP lb)), u53, u55, (Value.bool (isP (lb ++ (List.replicate ((n % ((9 : Nat) : Int)).toNat) 0)))), (Value.bool true), (Value.bool false), u1, (eN la.length), (Value.bool false), (Value.bool false), u2, (eN lb.length), (Value.bool (decide (20 < lb.length))), (Value.bool (decide (20 < lb.length))), (sli b3 0 0 0), u1, u9, (eI n), (eN ((n % ((9 : Nat) : Int)).toNat)), u17, (Value.tuple #[u25, u27, (Value.bool (isP lb))]), u17, u2, (Value.tuple #[u25, u27, (Value.bool (isP lb))]), u25, u27, (Value.bool (isP lb)), (Value.tuple #[u53, u55, (Value.bool (isP (lb ++ (List.replicate ((n % ((9 : Nat) : Int)).toNat) 0))))]), u1, (sli b31 0 0 0), u2, u37, (eI n), (eN ((n % ((9 : Nat) : Int)).toNat)), u45, (Value.tuple #[u53, u55, (Value.bool (isP (lb ++ (List.replicate ((n % ((9 : Nat) : Int)).toNat) 0))))]), u53, u55, (Value.bool (isP (lb ++ (List.replicate ((n % ((9 : Nat) : Int)).toNat) 0)))), undef, undef, undef, undef, undef, undef, undef, undef, undef, undef, undef, undef, undef, undef, undef, undef, undef, undef, undef, undef, undef, undef, undef, undef, undef, undef, undef, undef, undef, undef, undef, undef, undef, undef, undef, undef, undef, undef, undef, undef, undef, undef, undef, undef, undef, undef] (by kernel_rfl) ?_
      refine wpL.done ?_
      refine then_n ?_
      refine wpIn_seq ?_
      refine drawn' (O := (Orq bo47 (Orq bo19 No))) (n := 47) [0, 1, 3, 0, 11, 27, 63, 127, 255, 511, 255, 1279, 4095, 8191, 16383, 32767, 65535, 32767, 163839, 524287, 1048575, 2097151, 4194303, 4194303, 16777215, 33554431, 67108863, 134217727, 134217727, 536870911, 134217727, 134217727, 4294967295, 8589934591, 17179869183, 34359738367, 68719476735, 68719476735, 274877906943, 549755813887, 68719476735, 68719476735, 3848290697215, 8246337208319, 17592186044415, 35184372088831, 70368744177663] [(0, 51), (1, 52), (2, 53), (3, 54), (4, 55), (5, 56), (6, 57), (7, 58), (8, 59), (9, 60), (10, 61), (11, 62), (12, 63), (13, 64), (14, 65), (15, 66), (16, 67), (17, 68), (18, 69), (19, 70), (20, 71), (21, 72), (22, 73), (23, 74), (24, 75), (25, 76), (26, 77), (27, 78), (28, 79), (29, 80), (30, 81), (31, 82), (32, 83), (33, 84), (34, 85), (35, 86), (36, 87), (37, 88), (38, 89), (39, 90), (40, 91), (41, 92), (42, 93), (43, 94), (44, 95), (45, 96), (46, 8)] [0, 1, 2, 3, 4, 5, 6, 7, 8, 9, 10, 11, 12, 13, 14, 15, 16, 17, 18, 19, 20, 21, 22, 23, 24, 25, 26, 27, 28, 29, 30, 31, 32, 33, 34, 35, 36, 37, 38, 39, 40, 41, 42, 43, 44, 45, 46] [] (fun i_ => ([RF.is (Orq bo47 (Orq bo19 No)) u17, RF.ps (Orq bo47 (Orq bo19 No)) (Orq bo47 (Orq bo19 (Old W.heap.size))) (Seq kB (trimL (la ++ (List.replicate ((n % ((9 : Nat) : Int)).toNat) 0)))) (orq_mono (orq_mono no_any)), RF.is (Orq bo47 (Orq bo19 No)) (Value.string (strOf (trimL (la ++ (List.replicate ((n % ((9 : Nat) : Int)).toNat) 0))))), RF.is (Orq bo47 (Orq bo19 No)) u1, RF.ps (Orq bo47 (Orq bo19 No)) (Orq bo47 (Orq bo19 (Old W.heap.size))) (Seq kB (trimL la)) (orq_mono (orq_mono no_any)), RF.is (Orq bo47 (Orq bo19 No)) (Value.string (strOf (trimL la))), RF.is (Orq bo47 (Orq bo19 No)) (Value.bool true), RF.is (Orq bo47 (Orq bo19 No)) (Value.bool true), RF.is (Orq bo47 (Orq bo19 No)) u25, RF.is (Orq bo47 (Orq bo19 No)) (Value.string (strOf (quoP (la ++ (List.replicate ((n % ((9 : Nat) : Int)).toNat) 0)) lb))), RF.is (Orq bo47 (Orq bo19 No)) u53, RF.is (Orq bo47 (Orq bo19 No)) (Value.string (strOf (quoP la (lb ++ (List.replicate ((n % ((9 : Nat) : Int)).toNat) 0))))), RF.is (Orq bo47 (Orq bo19 No)) (Value.bool true), RF.is (Orq bo47 (Orq bo19 No)) (Value.bool true), RF.is (Orq bo47 (Orq bo19 No)) (Value.bool true), RF.is (Orq bo47 (Orq bo19 No)) u27, RF.is (Orq bo47 (Orq bo19 No)) (Value.string (strOf (remP (la ++ (List.replicate ((n % ((9 : Nat) : Int)).toNat) 0)) lb))), RF.is (Orq bo47 (Orq bo19 No)) u55, RF.is (Orq bo47 (Orq bo19 No)) (Value.string (strOf (remP la (lb ++ (List.replicate ((n % ((9 : Nat) : Int)).toNat) 0))))), RF.is (Orq bo47 (Orq bo19 No)) (Value.bool true), RF.is (Orq bo47 (Orq bo19 No)) (Value.bool true), RF.is (Orq bo47 (Orq bo19 No)) (Value.bool true), RF.is (Orq bo47 (Orq bo19 No)) (Value.bool (isP lb)), RF.is (Orq bo47 (Orq bo19 No)) (Value.bool (isP (lb ++ (List.replicate ((n % ((9 : Nat) : Int)).toNat) 0)))), RF.is (Orq bo47 (Orq bo19 No)) (Value.bool true), RF.is (Orq bo47 (Orq bo19 No)) (Value.bool true), RF.is (Orq bo47 (Orq bo19 No)) (Value.bool true), RF.is (Orq bo47 (Orq bo19 No)) u17, RF.is (Orq bo47 (Orq bo19 No)) (eB x), RF.is (Orq bo47 (Orq bo19 No)) (eB (evP (la ++ (List.replicate ((n % ((9 : Nat) : Int)).toNat) 0)) x)), RF.is (Orq bo47 (Orq bo19 No)) u1, RF.is (Orq bo47 (Orq bo19 No)) (eB x), RF.is (Orq bo47 (Orq bo19 No)) (eB (evP la x)), RF.is (Orq bo47 (Orq bo19 No)) (Value.bool true), RF.is (Orq bo47 (Orq bo19 No)) (Value.bool true), RF.is (Orq bo47 (Orq bo19 No)) (Value.bool true), RF.is (Orq bo47 (Orq bo19 No)) u17, RF.is (Orq bo47 (Orq bo19 No)) u2, RF.ps (Orq bo47 (Orq bo19 No)) (Orq bo47 (Orq bo19 (Old W.heap.size))) (Seq kB (mulP (la ++ (List.replicate ((n % ((9 : Nat) : Int)).toNat) 0)) lb)) (orq_mono (orq_mono no_any)), RF.is (Orq bo47 (Orq bo19 No)) (Value.string (strOf (mulP (la ++ (List.replicate ((n % ((9 : Nat) : Int)).toNat) 0)) lb))), RF.is (Orq bo47 (Orq bo19 No)) u1, RF.is (Orq bo47 (Orq bo19 No)) u2, RF.ps (Orq bo47 (Orq bo19 No)) (Orq bo47 (Orq bo19 (Old W.heap.size))) (Seq kB (mulP la lb)) (orq_mono (orq_mono no_any)), RF.is (Orq bo47 (Orq bo19 No)) (Value.string (strOf (mulP la lb))), RF.is (Orq bo47 (Orq bo19 No)) (Value.bool true), RF.is (Orq bo47 (Orq bo19 No)) (Value.bool true), RF.is (Orq bo47 (Orq bo19 No)) (Value.bool true)] : List (RF (Orq bo47 (Orq bo19 No)))).getD i_ (RF.any (Orq bo47 (Orq bo19 No)))) (fun _ w_ => Ow 5 1 bo19 u17 (la ++ (List.replicate ((n % ((9 : Nat) : Int)).toNat) 0)).length ((la ++ (List.replicate ((n % ((9 : Nat) : Int)).toNat) 0)).map eB) w_ ∧ Ow 5 1 bo47 u45 (lb ++ (List.replicate ((n % ((9 : Nat) : Int)).toNat) 0)).length ((lb ++ (List.replicate ((n % ((9 : Nat) : Int)).toNat) 0)).map eB) w_) (fun v59 => [u1, u2, (eI n), (eB x), undef, undef, undef, undef, (v59 46), u17, u25, u27, (Value.bool (isP lb)), u53, u55, (Value.bool (isP (lb ++ (List.replicate ((n % ((9 : Nat) : Int)).toNat) 0)))), (Value.bool true), (Value.bool false), u1, (eN la.length), (Value.bool false), (Value.bool false), u2, (eN lb.length), (Value.bool (decide (20 < lb.length))), (Value.bool (decide (20 < lb.length))), (sli b3 0 0 0), u1, u9, (eI n), (eN ((n % ((9 : Nat) : Int)).toNat)), u17, (Value.tuple #[u25, u27, (Value.bool (isP lb))]), u17, u2, (Value.tuple #[u25, u27, (Value.bool (isP lb))]), u25, u27, (Value.bool (isP lb)), (Value.tuple #[u53, u55, (Value.bool (isP (lb ++ (List.replicate ((n % ((9 : Nat) : Int)).toNat) 0))))]), u1, (sli b31 0 0 0), u2, u37, (eI n), (eN ((n % ((9 : Nat) : Int)).toNat)), u45, (Value.tuple #[u53, u55, (Value.bool (isP (lb ++ (List.replicate ((n % ((9 : Nat) : Int)).toNat) 0))))]), u53, u55, (Value.bool (isP (lb ++ (List.replicate ((n % ((9 : Nat) : Int)).toNat) 0)))), (v59 0), (v59 1), (v59 2), (v59 3), (v59 4), (v59 5), (v59 6), (v59 7), (v59 8), (v59 9), (v59 10), (v59 11), (v59 12), (v59 13), (v59 14), (v59 15), (v59 16), (v59 17), (v59 18), (v59 19), (v59 20), (v59 21), (v59 22), (v59 23), (v59 24), (v59 25), (v59 26), (v59 27), (v59 28), (v59 29), (v59 30), (v59 31), (v59 32), (v59 33), (v59 34), (v59 35), (v59 36), (v59 37), (v59 38), (v59 39), (v59 40), (v59 41), (v59 42), (v59 43), (v59 44), (v59 45)]) s_mx (by kernel_rfl) rfl (by decide) (by rfl) (fun v_ => by kernel_rfl) (fun _ => fun w_ w2_ h ho => by obtain ⟨r_a20, r_a48⟩ := h; exact ⟨r_a20.step0 ho, r_a48.step0 ho⟩) ⟨a20, a48⟩ ?_ ?_ ?_
      · skip
        refine ls_cons ?_ ?_
        · intro v59 lo hi w_ k_ hO hd _ _ hk_ _ hR hold
          obtain ⟨r_a20, r_a48⟩ := hR
          clear hd hold
          refine ⟨_, rfl, gd rfl ?_⟩
          exact Does.is (d_move (v := u17) rfl)
        refine ls_cons ?_ ?_
        · intro v59 lo hi w_ k_ hO hd _ _ hk_ _ hR hold
          obtain ⟨r_a20, r_a48⟩ := hR
          have e0 : v59 0 = u17 := hd 0 (by kernel_rfl)
          clear hd hold
          refine ⟨_, rfl, gd rfl ?_⟩
          refine Does.mono (R := ROw 5 eB (trimL (la ++ (List.replicate ((n % ((9 : Nat) : Int)).toNat) 0))) w_) ?_ (fun u w' h => ⟨(h.ps).1.less (orq_old (fun x hx => by subst hx; exact r_a48.lt) (orq_old (fun x hx => by subst hx; exact r_a20.lt) (old_old (Nat.le_trans oW.size hO.size)))), (h.ps).2⟩)
          exact d_call (xl := [.tmp 51]) (al := [u17]) Try.func18 (by kernel_rfl) rfl (show ([(v59 0)] : List Value) = [u17] from by rw [e0]) rfl (trim_ok (la ++ (List.replicate ((n % ((9 : Nat) : Int)).toNat) 0)) u17 _ (Ps.no (r_a20.seq (X := No) (fun _ _ h => h))) (by have := rep_len ((n % ((9 : Nat) : Int)).toNat) 0; first | omega | (simp; done) | (simp; omega)))
        refine ls_cons ?_ ?_
        · intro v59 lo hi w_ k_ hO hd _ _ hk_ _ hR hold
          obtain ⟨r_a20, r_a48⟩ := hR
          have d1 : Ps (Orq bo47 (Orq bo19 (Old W.heap.size))) (Seq kB (trimL (la ++ (List.replicate ((n % ((9 : Nat) : Int)).toNat) 0))) (v59 1)) w_ := hd 1 (by kernel_rfl)
          clear hd hold
          refine ⟨_, rfl, gd rfl ?_⟩
          exact Does.is (d_str Try.underlying23 Try.underlying5 Try.underlying9 rfl d1)
        refine ls_cons ?_ ?_
        · intro v59 lo hi w_ k_ hO hd _ _ hk_ _ hR hold
          obtain ⟨r_a20, r_a48⟩ := hR
          clear hd hold
          refine ⟨_, rfl, gd rfl ?_⟩
          exact Does.is (d_move (v := u1) rfl)
        refine ls_cons ?_ ?_
        · intro v59 lo hi w_ k_ hO hd _ _ hk_ _ hR hold
          obtain ⟨r_a20, r_a48⟩ := hR
          have e3 : v59 3 = u1 := hd 3 (by kernel_rfl)
          clear hd hold
          refine ⟨_, rfl, gd rfl ?_⟩
          refine Does.mono (R := ROw 5 eB (trimL la) w_) ?_ (fun u w' h => ⟨(h.ps).1.less (orq_old (fun x hx => by subst hx; exact r_a48.lt) (orq_old (fun x hx => by subst hx; exact r_a20.lt) (old_old (Nat.le_trans oW.size hO.size)))), (h.ps).2⟩)
          exact d_call (xl := [.tmp 54]) (al := [u1]) Try.func18 (by kernel_rfl) rfl (show ([(v59 3)] : List Value) = [u1] from by rw [e3]) rfl (trim_ok la u1 _ (Ps.no (h1.step hO (orq_mono (orq_mono no_any)))) (by first | omega | (simp; done) | (simp; omega)))
        refine ls_cons ?_ ?_
        · intro v59 lo hi w_ k_ hO hd _ _ hk_ _ hR hold
          obtain ⟨r_a20, r_a48⟩ := hR
          have d4 : Ps (Orq bo47 (Orq bo19 (Old W.heap.size))) (Seq kB (trimL la) (v59 4)) w_ := hd 4 (by kernel_rfl)
          clear hd hold
          refine ⟨_, rfl, gd rfl ?_⟩
          exact Does.is (d_str Try.underlying23 Try.underlying5 Try.underlying9 rfl d4)
        refine ls_cons ?_ ?_
        · intro v59 lo hi w_ k_ hO hd _ _ hk_ _ hR hold
          obtain ⟨r_a20, r_a48⟩ := hR
          have e2 : v59 2 = (Value.string (strOf (trimL (la ++ (List.replicate ((n % ((9 : Nat) : Int)).toNat) 0))))) := hd 2 (by kernel_rfl)
          have e5 : v59 5 = (Value.string (strOf (trimL la))) := hd 5 (by kernel_rfl)
          clear hd hold
          refine ⟨_, rfl, gd rfl ?_⟩
          exact Does.is (d_seql (a := (trimL (la ++ (List.replicate ((n % ((9 : Nat) : Int)).toNat) 0)))) (c := (trimL la)) e2 e5 (decide_eq_true (trim_app0 _ _)))
        refine ls_cons ?_ ?_
        · intro v59 lo hi w_ k_ hO hd _ _ hk_ _ hR hold
          obtain ⟨r_a20, r_a48⟩ := hR
          have e6 : v59 6 = (Value.bool true) := hd 6 (by kernel_rfl)
          clear hd hold
          refine ⟨_, rfl, gd rfl ?_⟩
          exact Does.is (d_move (v := (Value.bool true)) e6)
        refine ls_cons ?_ ?_
        · intro v59 lo hi w_ k_ hO hd _ _ hk_ _ hR hold
          obtain ⟨r_a20, r_a48⟩ := hR
          have e7 : v59 7 = (Value.bool true) := hd 7 (by kernel_rfl)
          clear hd hold
          refine ⟨_, rfl, gd_on rfl rfl rfl (Nat.le_of_ble_eq_true rfl) e7 ?_⟩
          exact Does.is (d_move (v := u25) rfl)
        refine ls_cons ?_ ?_
        · intro v59 lo hi w_ k_ hO hd _ _ hk_ _ hR hold
          obtain ⟨r_a20, r_a48⟩ := hR
          have e7 : v59 7 = (Value.bool true) := hd 7 (by kernel_rfl)
          have e8 : v59 8 = u25 := hd 8 (by kernel_rfl)
          clear hd hold
          refine ⟨_, rfl, gd_on rfl rfl rfl (Nat.le_of_ble_eq_true rfl) e7 ?_⟩
          exact Does.is (d_str Try.underlying23 Try.underlying5 Try.underlying9 e8 (f26.step hO (orq_mono (orq_mono no_any))))
        refine ls_cons ?_ ?_
        · intro v59 lo hi w_ k_ hO hd _ _ hk_ _ hR hold
          obtain ⟨r_a20, r_a48⟩ := hR
          have e7 : v59 7 = (Value.bool true) := hd 7 (by kernel_rfl)
          clear hd hold
          refine ⟨_, rfl, gd_on rfl rfl rfl (Nat.le_of_ble_eq_true rfl) e7 ?_⟩
          exact Does.is (d_move (v := u53) rfl)
        refine ls_cons ?_ ?_
        · intro v59 lo hi w_ k_ hO hd _ _ hk_ _ hR hold
          obtain ⟨r_a20, r_a48⟩ := hR
          have e10 : v59 10 = u53 := hd 10 (by kernel_rfl)
          have e7 : v59 7 = (Value.bool true) := hd 7 (by kernel_rfl)
          clear hd hold
          refine ⟨_, rfl, gd_on rfl rfl rfl (Nat.le_of_ble_eq_true rfl) e7 ?_⟩
          exact Does.is (d_str Try.underlying23 Try.underlying5 Try.underlying9 e10 (f54.step hO (orq_mono (orq_mono no_any))))
        refine ls_cons ?_ ?_
        · intro v59 lo hi w_ k_ hO hd _ _ hk_ _ hR hold
          obtain ⟨r_a20, r_a48⟩ := hR
          have e11 : v59 11 = (Value.string (strOf (quoP la (lb ++ (List.replicate ((n % ((9 : Nat) : Int)).toNat) 0))))) := hd 11 (by kernel_rfl)
          have e7 : v59 7 = (Value.bool true) := hd 7 (by kernel_rfl)
          have e9 : v59 9 = (Value.string (strOf (quoP (la ++ (List.replicate ((n % ((9 : Nat) : Int)).toNat) 0)) lb))) := hd 9 (by kernel_rfl)
          clear hd hold
          refine ⟨_, rfl, gd_on rfl rfl rfl (Nat.le_of_ble_eq_true rfl) e7 ?_⟩
          exact Does.is (d_seql (a := (quoP (la ++ (List.replicate ((n % ((9 : Nat) : Int)).toNat) 0)) lb)) (c := (quoP la (lb ++ (List.replicate ((n % ((9 : Nat) : Int)).toNat) 0)))) e9 e11 (decide_eq_true (quo_app0 _ _ _)))
        refine ls_cons ?_ ?_
        · intro v59 lo hi w_ k_ hO hd _ _ hk_ _ hR hold
          obtain ⟨r_a20, r_a48⟩ := hR
          have e12 : v59 12 = (Value.bool true) := hd 12 (by kernel_rfl)
          have e7 : v59 7 = (Value.bool true) := hd 7 (by kernel_rfl)
          clear hd hold
          refine ⟨_, rfl, gd rfl ?_⟩
          exact Does.is (d_pick (b := true) (v := (Value.bool true)) e7 e12)
        refine ls_cons ?_ ?_
        · intro v59 lo hi w_ k_ hO hd _ _ hk_ _ hR hold
          obtain ⟨r_a20, r_a48⟩ := hR
          have e13 : v59 13 = (Value.bool true) := hd 13 (by kernel_rfl)
          clear hd hold
          refine ⟨_, rfl, gd rfl ?_⟩
          exact Does.is (d_move (v := (Value.bool true)) e13)
        refine ls_cons ?_ ?_
        · intro v59 lo hi w_ k_ hO hd _ _ hk_ _ hR hold
          obtain ⟨r_a20, r_a48⟩ := hR
          have e14 : v59 14 = (Value.bool true) := hd 14 (by kernel_rfl)
          clear hd hold
          refine ⟨_, rfl, gd_on rfl rfl rfl (Nat.le_of_ble_eq_true rfl) e14 ?_⟩
          exact Does.is (d_move (v := u27) rfl)
        refine ls_cons ?_ ?_
        · intro v59 lo hi w_ k_ hO hd _ _ hk_ _ hR hold
          obtain ⟨r_a20, r_a48⟩ := hR
          have e14 : v59 14 = (Value.bool true) := hd 14 (by kernel_rfl)
          have e15 : v59 15 = u27 := hd 15 (by kernel_rfl)
          clear hd hold
          refine ⟨_, rfl, gd_on rfl rfl rfl (Nat.le_of_ble_eq_true rfl) e14 ?_⟩
          exact Does.is (d_str Try.underlying23 Try.underlying5 Try.underlying9 e15 (f28.step hO (orq_mono (orq_mono no_any))))
        refine ls_cons ?_ ?_
        · intro v59 lo hi w_ k_ hO hd _ _ hk_ _ hR hold
          obtain ⟨r_a20, r_a48⟩ := hR
          have e14 : v59 14 = (Value.bool true) := hd 14 (by kernel_rfl)
          clear hd hold
          refine ⟨_, rfl, gd_on rfl rfl rfl (Nat.le_of_ble_eq_true rfl) e14 ?_⟩
          exact Does.is (d_move (v := u55) rfl)
        refine ls_cons ?_ ?_
        · intro v59 lo hi w_ k_ hO hd _ _ hk_ _ hR hold
          obtain ⟨r_a20, r_a48⟩ := hR
          have e14 : v59 14 = (Value.bool true) := hd 14 (by kernel_rfl)
          have e17 : v59 17 = u55 := hd 17 (by kernel_rfl)
          clear hd hold
          refine ⟨_, rfl, gd_on rfl rfl rfl (Nat.le_of_ble_eq_true rfl) e14 ?_⟩
          exact Does.is (d_str Try.underlying23 Try.underlying5 Try.underlying9 e17 (f56.step hO (orq_mono (orq_mono no_any))))
        refine ls_cons ?_ ?_
        · intro v59 lo hi w_ k_ hO hd _ _ hk_ _ hR hold
          obtain ⟨r_a20, r_a48⟩ := hR
          have e14 : v59 14 = (Value.bool true) := hd 14 (by kernel_rfl)
          have e16 : v59 16 = (Value.string (strOf (remP (la ++ (List.replicate ((n % ((9 : Nat) : Int)).toNat) 0)) lb))) := hd 16 (by kernel_rfl)
          have e18 : v59 18 = (Value.string (strOf (remP la (lb ++ (List.replicate ((n % ((9 : Nat) : Int)).toNat) 0))))) := hd 18 (by kernel_rfl)
          clear hd hold
          refine ⟨_, rfl, gd_on rfl rfl rfl (Nat.le_of_ble_eq_true rfl) e14 ?_⟩
          exact Does.is (d_seql (a := (remP (la ++ (List.replicate ((n % ((9 : Nat) : Int)).toNat) 0)) lb)) (c := (remP la (lb ++ (List.replicate ((n % ((9 : Nat) : Int)).toNat) 0)))) e16 e18 (decide_eq_true (rem_app0 _ _ _)))
        refine ls_cons ?_ ?_
        · intro v59 lo hi w_ k_ hO hd _ _ hk_ _ hR hold
          obtain ⟨r_a20, r_a48⟩ := hR
          have e14 : v59 14 = (Value.bool true) := hd 14 (by kernel_rfl)
          have e19 : v59 19 = (Value.bool true) := hd 19 (by kernel_rfl)
          clear hd hold
          refine ⟨_, rfl, gd rfl ?_⟩
          exact Does.is (d_pick (b := true) (v := (Value.bool true)) e14 e19)
        refine ls_cons ?_ ?_
        · intro v59 lo hi w_ k_ hO hd _ _ hk_ _ hR hold
          obtain ⟨r_a20, r_a48⟩ := hR
          have e20 : v59 20 = (Value.bool true) := hd 20 (by kernel_rfl)
          clear hd hold
          refine ⟨_, rfl, gd rfl ?_⟩
          exact Does.is (d_move (v := (Value.bool true)) e20)
        refine ls_cons ?_ ?_
        · intro v59 lo hi w_ k_ hO hd _ _ hk_ _ hR hold
          obtain ⟨r_a20, r_a48⟩ := hR
          have e21 : v59 21 = (Value.bool true) := hd 21 (by kernel_rfl)
          clear hd hold
          refine ⟨_, rfl, gd_on rfl rfl rfl (Nat.le_of_ble_eq_true rfl) e21 ?_⟩
          exact Does.is (d_move (v := (Value.bool (isP lb))) rfl)
        refine ls_cons ?_ ?_
        · intro v59 lo hi w_ k_ hO hd _ _ hk_ _ hR hold
          obtain ⟨r_a20, r_a48⟩ := hR
          have e21 : v59 21 = (Value.bool true) := hd 21 (by kernel_rfl)
          clear hd hold
          refine ⟨_, rfl, gd_on rfl rfl rfl (Nat.le_of_ble_eq_true rfl) e21 ?_⟩
          exact Does.is (d_move (v := (Value.bool (isP (lb ++ (List.replicate ((n % ((9 : Nat) : Int)).toNat) 0))))) rfl)
        refine ls_cons ?_ ?_
        · intro v59 lo hi w_ k_ hO hd _ _ hk_ _ hR hold
          obtain ⟨r_a20, r_a48⟩ := hR
          have e21 : v59 21 = (Value.bool true) := hd 21 (by kernel_rfl)
          have e22 : v59 22 = (Value.bool (isP lb)) := hd 22 (by kernel_rfl)
          have e23 : v59 23 = (Value.bool (isP (lb ++ (List.replicate ((n % ((9 : Nat) : Int)).toNat) 0)))) := hd 23 (by kernel_rfl)
          clear hd hold
          refine ⟨_, rfl, gd_on rfl rfl rfl (Nat.le_of_ble_eq_true rfl) e21 ?_⟩
          exact Does.is (d_beql Try.underlying4 e22 e23 (by rw [← isP_app0]; cases isP lb <;> rfl))
        refine ls_cons ?_ ?_
        · intro v59 lo hi w_ k_ hO hd _ _ hk_ _ hR hold
          obtain ⟨r_a20, r_a48⟩ := hR
          have e21 : v59 21 = (Value.bool true) := hd 21 (by kernel_rfl)
          have e24 : v59 24 = (Value.bool true) := hd 24 (by kernel_rfl)
          clear hd hold
          refine ⟨_, rfl, gd rfl ?_⟩
          exact Does.is (d_pick (b := true) (v := (Value.bool true)) e21 e24)
        refine ls_cons ?_ ?_
        · intro v59 lo hi w_ k_ hO hd _ _ hk_ _ hR hold
          obtain ⟨r_a20, r_a48⟩ := hR
          have e25 : v59 25 = (Value.bool true) := hd 25 (by kernel_rfl)
          clear hd hold
          refine ⟨_, rfl, gd rfl ?_⟩
          exact Does.is (d_move (v := (Value.bool true)) e25)
        refine ls_cons ?_ ?_
        · intro v59 lo hi w_ k_ hO hd _ _ hk_ _ hR hold
          obtain ⟨r_a20, r_a48⟩ := hR
          have e26 : v59 26 = (Value.bool true) := hd 26 (by kernel_rfl)
          clear hd hold
          refine ⟨_, rfl, gd_on rfl rfl rfl (Nat.le_of_ble_eq_true rfl) e26 ?_⟩
          exact Does.is (d_move (v := u17) rfl)
        refine ls_cons ?_ ?_
        · intro v59 lo hi w_ k_ hO hd _ _ hk_ _ hR hold
          obtain ⟨r_a20, r_a48⟩ := hR
          have e26 : v59 26 = (Value.bool true) := hd 26 (by kernel_rfl)
          clear hd hold
          refine ⟨_, rfl, gd_on rfl rfl rfl (Nat.le_of_ble_eq_true rfl) e26 ?_⟩
          exact Does.is (d_move (v := (eB x)) rfl)
        refine ls_cons ?_ ?_
        · intro v59 lo hi w_ k_ hO hd _ _ hk_ _ hR hold
          obtain ⟨r_a20, r_a48⟩ := hR
          have e26 : v59 26 = (Value.bool true) := hd 26 (by kernel_rfl)
          have e27 : v59 27 = u17 := hd 27 (by kernel_rfl)
          have e28 : v59 28 = (eB x) := hd 28 (by kernel_rfl)
          clear hd hold
          refine ⟨_, rfl, gd_on rfl rfl rfl (Nat.le_of_ble_eq_true rfl) e26 ?_⟩
          exact d_call (xl := [.tmp 78, .tmp 79]) (al := [u17, (eB x)]) Try.func14 (by kernel_rfl) rfl (show ([(v59 27), (v59 28)] : List Value) = [u17, (eB x)] from by rw [e27, e28]) rfl (eval_ok (la ++ (List.replicate ((n % ((9 : Nat) : Int)).toNat) 0)) u17 x _ (Ps.no (r_a20.seq (X := No) (fun _ _ h => h))) (by have := rep_len ((n % ((9 : Nat) : Int)).toNat) 0; first | omega | (simp; done) | (simp; omega)))
        refine ls_cons ?_ ?_
        · intro v59 lo hi w_ k_ hO hd _ _ hk_ _ hR hold
          obtain ⟨r_a20, r_a48⟩ := hR
          have e26 : v59 26 = (Value.bool true) := hd 26 (by kernel_rfl)
          clear hd hold
          refine ⟨_, rfl, gd_on rfl rfl rfl (Nat.le_of_ble_eq_true rfl) e26 ?_⟩
          exact Does.is (d_move (v := u1) rfl)
        refine ls_cons ?_ ?_
        · intro v59 lo hi w_ k_ hO hd _ _ hk_ _ hR hold
          obtain ⟨r_a20, r_a48⟩ := hR
          have e26 : v59 26 = (Value.bool true) := hd 26 (by kernel_rfl)
          clear hd hold
          refine ⟨_, rfl, gd_on rfl rfl rfl (Nat.le_of_ble_eq_true rfl) e26 ?_⟩
          exact Does.is (d_move (v := (eB x)) rfl)
        refine ls_cons ?_ ?_
        · intro v59 lo hi w_ k_ hO hd _ _ hk_ _ hR hold
          obtain ⟨r_a20, r_a48⟩ := hR
          have e26 : v59 26 = (Value.bool true) := hd 26 (by kernel_rfl)
          have e30 : v59 30 = u1 := hd 30 (by kernel_rfl)
          have e31 : v59 31 = (eB x) := hd 31 (by kernel_rfl)
          clear hd hold
          refine ⟨_, rfl, gd_on rfl rfl rfl (Nat.le_of_ble_eq_true rfl) e26 ?_⟩
          exact d_call (xl := [.tmp 81, .tmp 82]) (al := [u1, (eB x)]) Try.func14 (by kernel_rfl) rfl (show ([(v59 30), (v59 31)] : List Value) = [u1, (eB x)] from by rw [e30, e31]) rfl (eval_ok la u1 x _ (Ps.no (h1.step hO (orq_mono (orq_mono no_any)))) (by first | omega | (simp; done) | (simp; omega)))
        refine ls_cons ?_ ?_
        · intro v59 lo hi w_ k_ hO hd _ _ hk_ _ hR hold
          obtain ⟨r_a20, r_a48⟩ := hR
          have e26 : v59 26 = (Value.bool true) := hd 26 (by kernel_rfl)
          have e29 : v59 29 = (eB (evP (la ++ (List.replicate ((n % ((9 : Nat) : Int)).toNat) 0)) x)) := hd 29 (by kernel_rfl)
          have e32 : v59 32 = (eB (evP la x)) := hd 32 (by kernel_rfl)
          clear hd hold
          refine ⟨_, rfl, gd_on rfl rfl rfl (Nat.le_of_ble_eq_true rfl) e26 ?_⟩
          exact Does.is (b_eql (c := (evP (la ++ (List.replicate ((n % ((9 : Nat) : Int)).toNat) 0)) x)) (e := (evP la x)) e29 e32 (decide_eq_true (evP_app0 _ _ _)))
        refine ls_cons ?_ ?_
        · intro v59 lo hi w_ k_ hO hd _ _ hk_ _ hR hold
          obtain ⟨r_a20, r_a48⟩ := hR
          have e26 : v59 26 = (Value.bool true) := hd 26 (by kernel_rfl)
          have e33 : v59 33 = (Value.bool true) := hd 33 (by kernel_rfl)
          clear hd hold
          refine ⟨_, rfl, gd rfl ?_⟩
          exact Does.is (d_pick (b := true) (v := (Value.bool true)) e26 e33)
        refine ls_cons ?_ ?_
        · intro v59 lo hi w_ k_ hO hd _ _ hk_ _ hR hold
          obtain ⟨r_a20, r_a48⟩ := hR
          have e34 : v59 34 = (Value.bool true) := hd 34 (by kernel_rfl)
          clear hd hold
          refine ⟨_, rfl, gd rfl ?_⟩
          exact Does.is (d_move (v := (Value.bool true)) e34)
        refine ls_cons ?_ ?_
        · intro v59 lo hi w_ k_ hO hd _ _ hk_ _ hR hold
          obtain ⟨r_a20, r_a48⟩ := hR
          have e35 : v59 35 = (Value.bool true) := hd 35 (by kernel_rfl)
          clear hd hold
          refine ⟨_, rfl, gd_on rfl rfl rfl (Nat.le_of_ble_eq_true rfl) e35 ?_⟩
          exact Does.is (d_move (v := u17) rfl)
        refine ls_cons ?_ ?_
        · intro v59 lo hi w_ k_ hO hd _ _ hk_ _ hR hold
          obtain ⟨r_a20, r_a48⟩ := hR
          have e35 : v59 35 = (Value.bool true) := hd 35 (by kernel_rfl)
          clear hd hold
          refine ⟨_, rfl, gd_on rfl rfl rfl (Nat.le_of_ble_eq_true rfl) e35 ?_⟩
          exact Does.is (d_move (v := u2) rfl)
        refine ls_cons ?_ ?_
        · intro v59 lo hi w_ k_ hO hd _ _ hk_ _ hR hold
          obtain ⟨r_a20, r_a48⟩ := hR
          have e35 : v59 35 = (Value.bool true) := hd 35 (by kernel_rfl)
          have e36 : v59 36 = u17 := hd 36 (by kernel_rfl)
          have e37 : v59 37 = u2 := hd 37 (by kernel_rfl)
          clear hd hold
          refine ⟨_, rfl, gd_on rfl rfl rfl (Nat.le_of_ble_eq_true rfl) e35 ?_⟩
          refine Does.mono (R := ROw 5 eB (mulP (la ++ (List.replicate ((n % ((9 : Nat) : Int)).toNat) 0)) lb) w_) ?_ (fun u w' h => ⟨(h.ps).1.less (orq_old (fun x hx => by subst hx; exact r_a48.lt) (orq_old (fun x hx => by subst hx; exact r_a20.lt) (old_old (Nat.le_trans oW.size hO.size)))), (h.ps).2⟩)
          exact d_call (xl := [.tmp 87, .tmp 88]) (al := [u17, u2]) Try.func16 (by kernel_rfl) rfl (show ([(v59 36), (v59 37)] : List Value) = [u17, u2] from by rw [e36, e37]) rfl (mul_ok (la ++ (List.replicate ((n % ((9 : Nat) : Int)).toNat) 0)) lb u17 u2 _ (Ps.no (r_a20.seq (X := No) (fun _ _ h => h))) (Ps.no (h2.step hO (orq_mono (orq_mono no_any)))) (by have := rep_len ((n % ((9 : Nat) : Int)).toNat) 0; first | omega | (simp; done) | (simp; omega)) (by first | omega | (simp; done) | (simp; omega)))
        refine ls_cons ?_ ?_
        · intro v59 lo hi w_ k_ hO hd _ _ hk_ _ hR hold
          obtain ⟨r_a20, r_a48⟩ := hR
          have e35 : v59 35 = (Value.bool true) := hd 35 (by kernel_rfl)
          have d38 : Ps (Orq bo47 (Orq bo19 (Old W.heap.size))) (Seq kB (mulP (la ++ (List.replicate ((n % ((9 : Nat) : Int)).toNat) 0)) lb) (v59 38)) w_ := hd 38 (by kernel_rfl)
          clear hd hold
          refine ⟨_, rfl, gd_on rfl rfl rfl (Nat.le_of_ble_eq_true rfl) e35 ?_⟩
          exact Does.is (d_str Try.underlying23 Try.underlying5 Try.underlying9 rfl d38)
        refine ls_cons ?_ ?_
        · intro v59 lo hi w_ k_ hO hd _ _ hk_ _ hR hold
          obtain ⟨r_a20, r_a48⟩ := hR
          have e35 : v59 35 = (Value.bool true) := hd 35 (by kernel_rfl)
          clear hd hold
          refine ⟨_, rfl, gd_on rfl rfl rfl (Nat.le_of_ble_eq_true rfl) e35 ?_⟩
          exact Does.is (d_move (v := u1) rfl)
        refine ls_cons ?_ ?_
        · intro v59 lo hi w_ k_ hO hd _ _ hk_ _ hR hold
          obtain ⟨r_a20, r_a48⟩ := hR
          have e35 : v59 35 = (Value.bool true) := hd 35 (by kernel_rfl)
          clear hd hold
          refine ⟨_, rfl, gd_on rfl rfl rfl (Nat.le_of_ble_eq_true rfl) e35 ?_⟩
          exact Does.is (d_move (v := u2) rfl)
        refine ls_cons ?_ ?_
        · intro v59 lo hi w_ k_ hO hd _ _ hk_ _ hR hold
          obtain ⟨r_a20, r_a48⟩ := hR
          have e35 : v59 35 = (Value.bool true) := hd 35 (by kernel_rfl)
          have e40 : v59 40 = u1 := hd 40 (by kernel_rfl)
          have e41 : v59 41 = u2 := hd 41 (by kernel_rfl)
          clear hd hold
          refine ⟨_, rfl, gd_on rfl rfl rfl (Nat.le_of_ble_eq_true rfl) e35 ?_⟩
          refine Does.mono (R := ROw 5 eB (mulP la lb) w_) ?_ (fun u w' h => ⟨(h.ps).1.less (orq_old (fun x hx => by subst hx; exact r_a48.lt) (orq_old (fun x hx => by subst hx; exact r_a20.lt) (old_old (Nat.le_trans oW.size hO.size)))), (h.ps).2⟩)
          exact d_call (xl := [.tmp 91, .tmp 92]) (al := [u1, u2]) Try.func16 (by kernel_rfl) rfl (show ([(v59 40), (v59 41)] : List Value) = [u1, u2] from by rw [e40, e41]) rfl (mul_ok la lb u1 u2 _ (Ps.no (h1.step hO (orq_mono (orq_mono no_any)))) (Ps.no (h2.step hO (orq_mono (orq_mono no_any)))) (by first | omega | (simp; done) | (simp; omega)) (by first | omega | (simp; done) | (simp; omega)))
        refine ls_cons ?_ ?_
        · intro v59 lo hi w_ k_ hO hd _ _ hk_ _ hR hold
          obtain ⟨r_a20, r_a48⟩ := hR
          have e35 : v59 35 = (Value.bool true) := hd 35 (by kernel_rfl)
          have d42 : Ps (Orq bo47 (Orq bo19 (Old W.heap.size))) (Seq kB (mulP la lb) (v59 42)) w_ := hd 42 (by kernel_rfl)
          clear hd hold
          refine ⟨_, rfl, gd_on rfl rfl rfl (Nat.le_of_ble_eq_true rfl) e35 ?_⟩
          exact Does.is (d_str Try.underlying23 Try.underlying5 Try.underlying9 rfl d42)
        refine ls_cons ?_ ?_
        · intro v59 lo hi w_ k_ hO hd _ _ hk_ _ hR hold
          obtain ⟨r_a20, r_a48⟩ := hR
          have e35 : v59 35 = (Value.bool true) := hd 35 (by kernel_rfl)
          have e39 : v59 39 = (Value.string (strOf (mulP (la ++ (List.replicate ((n % ((9 : Nat) : Int)).toNat) 0)) lb))) := hd 39 (by kernel_rfl)
          have e43 : v59 43 = (Value.string (strOf (mulP la lb))) := hd 43 (by kernel_rfl)
          clear hd hold
          refine ⟨_, rfl, gd_on rfl rfl rfl (Nat.le_of_ble_eq_true rfl) e35 ?_⟩
          exact Does.is (d_seql (a := (mulP (la ++ (List.replicate ((n % ((9 : Nat) : Int)).toNat) 0)) lb)) (c := (mulP la lb)) e39 e43 (decide_eq_true (mulP_app0 _ _ _)))
        refine ls_cons ?_ ?_
        · intro v59 lo hi w_ k_ hO hd _ _ hk_ _ hR hold
          obtain ⟨r_a20, r_a48⟩ := hR
          have e35 : v59 35 = (Value.bool true) := hd 35 (by kernel_rfl)
          have e44 : v59 44 = (Value.bool true) := hd 44 (by kernel_rfl)
          clear hd hold
          refine ⟨_, rfl, gd rfl ?_⟩
          exact Does.is (d_pick (b := true) (v := (Value.bool true)) e35 e44)
        refine ls_cons ?_ ?_
        · intro v59 lo hi w_ k_ hO hd _ _ hk_ _ hR hold
          obtain ⟨r_a20, r_a48⟩ := hR
          have e45 : v59 45 = (Value.bool true) := hd 45 (by kernel_rfl)
          clear hd hold
          refine ⟨_, rfl, gd rfl ?_⟩
          exact Does.is (d_assign (v := (Value.bool true)) e45)
        exact ls_nil
      · skip
        exact ms_nil
      intro v59 lo_ hi_ w60 o61 hd iv_ hR
      have e0 : v59 0 = u17 := hd 0 (by decide)
      have e2 : v59 2 = (Value.string (strOf (trimL (la ++ (List.replicate ((n % ((9 : Nat) : Int)).toNat) 0))))) := hd 2 (by decide)
      have e3 : v59 3 = u1 := hd 3 (by decide)
      have e5 : v59 5 = (Value.string (strOf (trimL la))) := hd 5 (by decide)
      have e6 : v59 6 = (Value.bool true) := hd 6 (by decide)
      have e7 : v59 7 = (Value.bool true) := hd 7 (by decide)
      have e8 : v59 8 = u25 := hd 8 (by decide)
      have e9 : v59 9 = (Value.string (strOf (quoP (la ++ (List.replicate ((n % ((9 : Nat) : Int)).toNat) 0)) lb))) := hd 9 (by decide)
      have e10 : v59 10 = u53 := hd 10 (by decide)
      have e11 : v59 11 = (Value.string (strOf (quoP la (lb ++ (List.replicate ((n % ((9 : Nat) : Int)).toNat) 0))))) := hd 11 (by decide)
      have e12 : v59 12 = (Value.bool true) := hd 12 (by decide)
      have e13 : v59 13 = (Value.bool true) := hd 13 (by decide)
      have e14 : v59 14 = (Value.bool true) := hd 14 (by decide)
      have e15 : v59 15 = u27 := hd 15 (by decide)
      have e16 : v59 16 = (Value.string (strOf (remP (la ++ (List.replicate ((n % ((9 : Nat) : Int)).toNat) 0)) lb))) := hd 16 (by decide)
      have e17 : v59 17 = u55 := hd 17 (by decide)
      have e18 : v59 18 = (Value.string (strOf (remP la (lb ++ (List.replicate ((n % ((9 : Nat) : Int)).toNat) 0))))) := hd 18 (by decide)
      have e19 : v59 19 = (Value.bool true) := hd 19 (by decide)
      have e20 : v59 20 = (Value.bool true) := hd 20 (by decide)
      have e21 : v59 21 = (Value.bool true) := hd 21 (by decide)
      have e22 : v59 22 = (Value.bool (isP lb)) := hd 22 (by decide)
      have e23 : v59 23 = (Value.bool (isP (lb ++ (List.replicate ((n % ((9 : Nat) : Int)).toNat) 0)))) := hd 23 (by decide)
      have e24 : v59 24 = (Value.bool true) := hd 24 (by decide)
      have e25 : v59 25 = (Value.bool true) := hd 25 (by decide)
      have e26 : v59 26 = (Value.bool true) := hd 26 (by decide)
      have e27 : v59 27 = u17 := hd 27 (by decide)
      have e28 : v59 28 = (eB x) := hd 28 (by decide)
      have e29 : v59 29 = (eB (evP (la ++ (List.replicate ((n % ((9 : Nat) : Int)).toNat) 0)) x)) := hd 29 (by decide)
      have e30 : v59 30 = u1 := hd 30 (by decide)
      have e31 : v59 31 = (eB x) := hd 31 (by decide)
      have e32 : v59 32 = (eB (evP la x)) := hd 32 (by decide)
      have e33 : v59 33 = (Value.bool true) := hd 33 (by decide)
      have e34 : v59 34 = (Value.bool true) := hd 34 (by decide)
      have e35 : v59 35 = (Value.bool true) := hd 35 (by decide)
      have e36 : v59 36 = u17 := hd 36 (by decide)
      have e37 : v59 37 = u2 := hd 37 (by decide)
      have e39 : v59 39 = (Value.string (strOf (mulP (la ++ (List.replicate ((n % ((9 : Nat) : Int)).toNat) 0)) lb))) := hd 39 (by decide)
      have e40 : v59 40 = u1 := hd 40 (by decide)
      have e41 : v59 41 = u2 := hd 41 (by decide)
      have e43 : v59 43 = (Value.string (strOf (mulP la lb))) := hd 43 (by decide)
      have e44 : v59 44 = (Value.bool true) := hd 44 (by decide)
      have e45 : v59 45 = (Value.bool true) := hd 45 (by decide)
      have e46 : v59 46 = (Value.bool true) := hd 46 (by decide)
      have f_v59_1 : Ps (Orq bo47 (Orq bo19 (Old W.heap.size))) (Seq kB (trimL (la ++ (List.replicate ((n % ((9 : Nat) : Int)).toNat) 0))) (v59 1)) w60 := hd 1 (by decide)
      have f_v59_4 : Ps (Orq bo47 (Orq bo19 (Old W.heap.size))) (Seq kB (trimL la) (v59 4)) w60 := hd 4 (by decide)
      have f_v59_38 : Ps (Orq bo47 (Orq bo19 (Old W.heap.size))) (Seq kB (mulP (la ++ (List.replicate ((n % ((9 : Nat) : Int)).toNat) 0)) lb) (v59 38)) w60 := hd 38 (by decide)
      have f_v59_42 : Ps (Orq bo47 (Orq bo19 (Old W.heap.size))) (Seq kB (mulP la lb) (v59 42)) w60 := hd 42 (by decide)
      clear hd iv_ lo_ hi_
      refine fr_eq (l' := [u1, u2, (eI n), (eB x), undef, undef, undef, undef, (Value.bool true), u17, u25, u27, (Value.bool (isP lb)), u53, u55, (Value.bool (isP (lb ++ (List.replicate ((n % ((9 : Nat) : Int)).toNat) 0)))), (Value.bool true), (Value.bool false), u1, (eN la.length), (Value.bool false), (Value.bool false), u2, (eN lb.length), (Value.bool (decide (20 < lb.length))), (Value.bool (decide (20 < lb.length))), (sli b3 0 0 0), u1, u9, (eI n), (eN ((n % ((9 : Nat) : Int)).toNat)), u17, (Value.tuple #[u25, u27, (Value.bool (isP lb))]), u17, u2, (Value.tuple #[u25, u27, (Value.bool (isP lb))]), u25, u27, (Value.bool (isP lb)), (Value.tuple #[u53, u55, (Value.bool (isP (lb ++ (List.replicate ((n % ((9 : Nat) : Int)).toNat) 0))))]), u1, (sli b31 0 0 0), u2, u37, (eI n), (eN ((n % ((9 : Nat) : Int)).toNat)), u45, (Value.tuple #[u53, u55, (Value.bool (isP (lb ++ (List.replicate ((n % ((9 : Nat) : Int)).toNat) 0))))]), u53, u55, (Value.bool (isP (lb ++ (List.replicate ((n % ((9 : Nat) : Int)).toNat) 0)))), u17, (v59 1), (Value.string (strOf (trimL (la ++ (List.replicate ((n % ((9 : Nat) : Int)).toNat) 0))))), u1, (v59 4), (Value.string (strOf (trimL la))), (Value.bool true), (Value.bool true), u25, (Value.string (strOf (quoP (la ++ (List.replicate ((n % ((9 : Nat) : Int)).toNat) 0)) lb))), u53, (Value.string (strOf (quoP la (lb ++ (List.replicate ((n % ((9 : Nat) : Int)).toNat) 0))))), (Value.bool true), (Value.bool true), (Value.bool true), u27, (Value.string (strOf (remP (la ++ (List.replicate ((n % ((9 : Nat) : Int)).toNat) 0)) lb))), u55, (Value.string (strOf (remP la (lb ++ (List.replicate ((n % ((9 : Nat) : Int)).toNat) 0))))), (Value.bool true), (Value.bool true), (Value.bool true), (Value.bool (isP lb)), (Value.bool (isP (lb ++ (List.replicate ((n % ((9 : Nat) : Int)).toNat) 0)))), (Value.bool true), (Value.bool true), (Value.bool true), u17, (eB x), (eB (evP (la ++ (List.replicate ((n % ((9 : Nat) : Int)).toNat) 0)) x)), u1, (eB x), (eB (evP la x)), (Value.bool true), (Value.bool true), (Value.bool true), u17, u2, (v59 38), (Value.string (strOf (mulP (la ++ (List.replicate ((n % ((9 : Nat) : Int)).toNat) 0)) lb))), u1, u2, (v59 42), (Value.string (strOf (mulP la lb))), (Value.bool true), (Value.bool true)]) (by rw [e0, e2, e3, e5, e6, e7, e8, e9, e10, e11, e12, e13, e14, e15, e16, e17, e18, e19, e20, e21, e22, e23, e24, e25, e26, e27, e28, e29, e30, e31, e32, e33, e34, e35, e36, e37, e39, e40, e41, e43, e44, e45, e46]) ?_
      clear e0 e2 e3 e5 e6 e7 e8 e9 e10 e11 e12 e13 e14 e15 e16 e17 e18 e19 e20 e21 e22 e23 e24 e25 e26 e27 e28 e29 e30 e31 e32 e33 e34 e35 e36 e37 e39 e40 e41 e43 e44 e45 e46
      replace h1 := h1.step o61 (orq_mono (orq_mono no_any))
      replace h2 := h2.step o61 (orq_mono (orq_mono no_any))
      replace f26 := f26.step o61 (orq_mono (orq_mono no_any))
      replace f28 := f28.step o61 (orq_mono (orq_mono no_any))
      replace f54 := f54.step o61 (orq_mono (orq_mono no_any))
      replace f56 := f56.step o61 (orq_mono (orq_mono no_any))
      obtain ⟨xr_a20, xr_a48⟩ := hR
      replace a20 : Ow 5 1 bo19 u17 (la ++ (List.replicate ((n % ((9 : Nat) : Int)).toNat) 0)).length ((la ++ (List.replicate ((n % ((9 : Nat) : Int)).toNat) 0)).map eB) w60 := xr_a20
      replace a48 : Ow 5 1 bo47 u45 (lb ++ (List.replicate ((n % ((9 : Nat) : Int)).toNat) 0)).length ((lb ++ (List.replicate ((n % ((9 : Nat) : Int)).toNat) 0)).map eB) w60 := xr_a48
      clear xr_a20 xr_a48
      replace oW := oW.tail o61 (tl_q q_oW_d (fun _ e => by cases e) (tl_q q_oW_c (fun _ e => by cases e) tl_no))
      refine then_n ?_
      refine wpIn_ret ?_
      refine leave0 (v := (Value.bool true)) (res1 Try.results6 rfl) ?_
      exact ⟨rfl, oW⟩

end Go.Proofs.YtphlhejccgbmfaaF
