import Derived.Test.YtphlhejccgbmfaaFk
import Derived.Test.YtphlhejccgbmfaaTy
import Derived.Test.YtphlhejccgbmfaaHpoly
import Derived.Test.YtphlhejccgbmfaaMr
set_option linter.unusedVariables false
set_option linter.unusedSimpArgs false
namespace Go.Proofs.YtphlhejccgbmfaaF
open Go Go.Shelf Go.Proofs.YtphlhejccgbmfaaS Ram
set_option maxRecDepth 20000 in
set_option maxHeartbeats 1000000 in
theorem polyEvals_ok (la lb : List UInt8) (x : UInt8) (u1 u2 : Value) (W : World) (h1 : Ps No (Seq kB la u1) W) (h2 : Ps No (Seq kB lb u2) W) :
    CW Try.prog 5 #[u1, u2, (eB x)] W (Rt (RIs (.bool true) W)) := by
  have oW : Only No W W := Only.refl _ _
  refine enter (al := [u1, u2, (eB x)]) (k := 51) (l := [u1, u2, (eB x), undef, undef, undef, undef, undef, undef, undef, undef, undef, undef, undef, undef, undef, undef, undef, undef, undef, undef, undef, undef, undef, undef, undef, undef, undef, undef, undef, undef, undef, undef, undef, undef, undef, undef, undef, undef, undef, undef, undef, undef, undef, undef, undef, undef, undef, undef, undef, undef, undef, undef, undef]) Try.func5 rfl Try.ntmps5 rfl rfl ?_
  refine wpIn_seq ?_
  refine plain ?_
  refine wpL.is (v := (Value.bool false)) rfl (d_assign (v := (Value.bool false)) rfl) ?_
  refine wpL.flat [u1, u2, (eB x), undef, undef, undef, (Value.bool false), undef, undef, undef, undef, undef, undef, undef, undef, undef, undef, undef, undef, undef, undef, undef, undef, undef, undef, undef, undef, undef, undef, undef, undef, undef, undef, undef, undef, undef, undef, undef, undef, undef, undef, undef, undef, undef, undef, undef, undef, undef, undef, undef, undef, undef, undef, undef] (by kernel_rfl) ?_
  refine wpL.done ?_
  refine then_n ?_
  refine wpIn_seq ?_
  refine wpIn_seq ?_
  refine plain ?_
  refine wpL.op rfl (d_call (xl := []) (al := []) Try.func10 (by kernel_rfl) rfl rfl rfl (known_ok _)) ?_
  rintro _ w1 ⟨rfl, o2⟩
  replace h1 := h1.step0 o2
  replace h2 := h2.step0 o2
  replace oW := oW.tail0 o2
  refine wpL.is (v := (Value.bool false)) rfl (d_not rfl rfl) ?_
  refine wpL.flat [u1, u2, (eB x), undef, undef, undef, (Value.bool false), (Value.bool true), (Value.bool false), undef, undef, undef, undef, undef, undef, undef, undef, undef, undef, undef, undef, undef, undef, undef, undef, undef, undef, undef, undef, undef, undef, undef, undef, undef, undef, undef, undef, undef, undef, undef, undef, undef, undef, undef, undef, undef, undef, undef, undef, undef, undef, undef, undef, undef] (by kernel_rfl) ?_
  refine wpL.done ?_
  refine then_n ?_
  refine cond_f rfl ?_
  refine wpIn_skip ?_
  refine then_n ?_
  refine wpIn_seq ?_
  refine wpIn_seq ?_
  by_cases k1 : 40 < la.length
  · skip
    refine plain ?_
    refine wpL.is (v := u1) rfl (d_move (v := u1) rfl) ?_
    refine wpL.is (v := (eN la.length)) rfl (d_lenS rfl Try.underlying23 rfl h1) ?_
    refine wpL.is (v := (Value.bool true)) rfl (n_gtr (a := la.length) (b := 40) rfl rfl (decide_eq_true k1)) ?_
    refine wpL.flat [u1, u2, (eB x), undef, undef, undef, (Value.bool false), (Value.bool true), (Value.bool false), u1, (eN la.length), (Value.bool true), undef, undef, undef, undef, undef, undef, undef, undef, undef, undef, undef, undef, undef, undef, undef, undef, undef, undef, undef, undef, undef, undef, undef, undef, undef, undef, undef, undef, undef, undef, undef, undef, undef, undef, undef, undef, undef, undef, undef, undef, undef, undef] (by kernel_rfl) ?_
    refine wpL.is (v := (Value.bool true)) rfl (d_move (v := (Value.bool true)) rfl) ?_
    refine wpL.off rfl rfl rfl (Nat.le_of_ble_eq_true rfl) rfl ?_
    refine wpL.flat [u1, u2, (eB x), undef, undef, undef, (Value.bool false), (Value.bool true), (Value.bool false), u1, (eN la.length), (Value.bool true), (Value.bool true), undef, undef, undef, undef, undef, undef, undef, undef, undef, undef, undef, undef, undef, undef, undef, undef, undef, undef, undef, undef, undef, undef, undef, undef, undef, undef, undef, undef, undef, undef, undef, undef, undef, undef, undef, undef, undef, undef, undef, undef, undef] (by kernel_rfl) ?_
    refine wpL.off rfl rfl rfl (Nat.le_of_ble_eq_true rfl) rfl ?_
    refine wpL.off rfl rfl rfl (Nat.le_of_ble_eq_true rfl) rfl ?_
    refine wpL.is (v := (Value.bool true)) rfl (d_pick (b := true) (v := (Value.bool true)) rfl rfl) ?_
    refine wpL.flat [u1, u2, (eB x), undef, undef, undef, (Value.bool false), (Value.bool true), (Value.bool false), u1, (eN la.length), (Value.bool true), (Value.bool true), undef, undef, undef, (Value.bool true), undef, undef, undef, undef, undef, undef, undef, undef, undef, undef, undef, undef, undef, undef, undef, undef, undef, undef, undef, undef, undef, undef, undef, undef, undef, undef, undef, undef, undef, undef, undef, undef, undef, undef, undef, undef, undef] (by kernel_rfl) ?_
    refine wpL.done ?_
    refine then_n ?_
    refine cond_t rfl ?_
    refine wpIn_seq ?_
    refine plain ?_
    refine wpL.is (v := (Value.bool true)) rfl (d_assign (v := (Value.bool true)) rfl) ?_
    refine wpL.flat [u1, u2, (eB x), undef, undef, undef, (Value.bool true), (Value.bool true), (Value.bool false), u1, (eN la.length), (Value.bool true), (Value.bool true), undef, undef, undef, (Value.bool true), undef, undef, undef, undef, undef, undef, undef, undef, undef, undef, undef, undef, undef, undef, undef, undef, undef, undef, undef, undef, undef, undef, undef, undef, undef, undef, undef, undef, undef, undef, undef, undef, undef, undef, undef, undef, undef] (by kernel_rfl) ?_
    refine wpL.done ?_
    refine then_n ?_
    refine wpIn_ret ?_
    refine then_r ?_
    refine leave0 (v := (Value.bool true)) (res1 Try.results5 rfl) ?_
    exact ⟨rfl, oW⟩
  · skip
    refine plain ?_
    refine wpL.is (v := u1) rfl (d_move (v := u1) rfl) ?_
    refine wpL.is (v := (eN la.length)) rfl (d_lenS rfl Try.underlying23 rfl h1) ?_
    refine wpL.is (v := (Value.bool false)) rfl (n_gtr (a := la.length) (b := 40) rfl rfl (decide_eq_false k1)) ?_
    refine wpL.flat [u1, u2, (eB x), undef, undef, undef, (Value.bool false), (Value.bool true), (Value.bool false), u1, (eN la.length), (Value.bool false), undef, undef, undef, undef, undef, undef, undef, undef, undef, undef, undef, undef, undef, undef, undef, undef, undef, undef, undef, undef, undef, undef, undef, undef, undef, undef, undef, undef, undef, undef, undef, undef, undef, undef, undef, undef, undef, undef, undef, undef, undef, undef] (by kernel_rfl) ?_
    refine wpL.is (v := (Value.bool false)) rfl (d_move (v := (Value.bool false)) rfl) ?_
    refine wpL.onis (v := u2) rfl rfl rfl (Nat.le_of_ble_eq_true rfl) rfl (d_move (v := u2) rfl) ?_
    refine wpL.onis (v := (eN lb.length)) rfl rfl rfl (Nat.le_of_ble_eq_true rfl) rfl (d_lenS rfl Try.underlying23 rfl h2) ?_
    refine wpL.flat [u1, u2, (eB x), undef, undef, undef, (Value.bool false), (Value.bool true), (Value.bool false), u1, (eN la.length), (Value.bool false), (Value.bool false), u2, (eN lb.length), undef, undef, undef, undef, undef, undef, undef, undef, undef, undef, undef, undef, undef, undef, undef, undef, undef, undef, undef, undef, undef, undef, undef, undef, undef, undef, undef, undef, undef, undef, undef, undef, undef, undef, undef, undef, undef, undef, undef] (by kernel_rfl) ?_
    refine wpL.onis (v := (Value.bool (decide (40 < lb.length)))) rfl rfl rfl (Nat.le_of_ble_eq_true rfl) rfl (n_gtr (a := lb.length) (b := 40) rfl rfl rfl) ?_
    refine wpL.is (v := (Value.bool (decide (40 < lb.length)))) rfl (d_pick (b := false) (v := (Value.bool (decide (40 < lb.length)))) rfl rfl) ?_
    refine wpL.flat [u1, u2, (eB x), undef, undef, undef, (Value.bool false), (Value.bool true), (Value.bool false), u1, (eN la.length), (Value.bool false), (Value.bool false), u2, (eN lb.length), (Value.bool (decide (40 < lb.length))), (Value.bool (decide (40 < lb.length))), undef, undef, undef, undef, undef, undef, undef, undef, undef, undef, undef, undef, undef, undef, undef, undef, undef, undef, undef, undef, undef, undef, undef, undef, undef, undef, undef, undef, undef, undef, undef, undef, undef, undef, undef, undef, undef] (by kernel_rfl) ?_
    refine wpL.done ?_
    refine then_n ?_
    refine cond_if rfl (fun k2 => ?_) (fun k2 => ?_)
    · skip
      refine wpIn_seq ?_
      refine plain ?_
      refine wpL.is (v := (Value.bool true)) rfl (d_assign (v := (Value.bool true)) rfl) ?_
      refine wpL.flat [u1, u2, (eB x), undef, undef, undef, (Value.bool true), (Value.bool true), (Value.bool false), u1, (eN la.length), (Value.bool false), (Value.bool false), u2, (eN lb.length), (Value.bool (decide (40 < lb.length))), (Value.bool (decide (40 < lb.length))), undef, undef, undef, undef, undef, undef, undef, undef, undef, undef, undef, undef, undef, undef, undef, undef, undef, undef, undef, undef, undef, undef, undef, undef, undef, undef, undef, undef, undef, undef, undef, undef, undef, undef, undef, undef, undef] (by kernel_rfl) ?_
      refine wpL.done ?_
      refine then_n ?_
      refine wpIn_ret ?_
      refine then_r ?_
      refine leave0 (v := (Value.bool true)) (res1 Try.results5 rfl) ?_
      exact ⟨rfl, oW⟩
    · skip
      refine wpIn_skip ?_
      refine then_n ?_
      refine wpIn_seq ?_
      refine plain ?_
      refine wpL.is (v := u1) rfl (d_move (v := u1) rfl) ?_
      refine wpL.is (v := (eB x)) rfl (d_move (v := (eB x)) rfl) ?_
      refine wpL.op rfl (d_call (xl := [.tmp 17, .tmp 18]) (al := [u1, (eB x)]) Try.func14 (by kernel_rfl) rfl rfl rfl (eval_ok la u1 x _ (Ps.no h1) (by first | omega | (simp; done) | (simp; omega)))) ?_
      rintro _ w3 ⟨rfl, o4⟩
      replace h1 := h1.step0 o4
      replace h2 := h2.step0 o4
      replace oW := oW.tail0 o4
      refine wpL.flat [u1, u2, (eB x), undef, undef, undef, (Value.bool false), (Value.bool true), (Value.bool false), u1, (eN la.length), (Value.bool false), (Value.bool false), u2, (eN lb.length), (Value.bool (decide (40 < lb.length))), (Value.bool (decide (40 < lb.length))), u1, (eB x), (eB (evP la x)), undef, undef, undef, undef, undef, undef, undef, undef, undef, undef, undef, undef, undef, undef, undef, undef, undef, undef, undef, undef, undef, undef, undef, undef, undef, undef, undef, undef, undef, undef, undef, undef, undef, undef] (by kernel_rfl) ?_
      refine wpL.is (v := u1) rfl (d_move (v := u1) rfl) ?_
      refine wpL.is (v := (eB x)) rfl (d_move (v := (eB x)) rfl) ?_
      refine wpL.op rfl (d_call (xl := [.tmp 20, .tmp 21]) (al := [u1, (eB x)]) Try.func19 (by kernel_rfl) rfl rfl rfl (ref3Eval_ok la u1 x _ (Ps.no h1) (by first | omega | (simp; done) | (simp; omega)))) ?_
      rintro _ w5 ⟨rfl, o6⟩
      replace h1 := h1.step0 o6
      replace h2 := h2.step0 o6
      replace oW := oW.tail0 o6
      refine wpL.flat [u1, u2, (eB x), undef, undef, undef, (Value.bool false), (Value.bool true), (Value.bool false), u1, (eN la.length), (Value.bool false), (Value.bool false), u2, (eN lb.length), (Value.bool (decide (40 < lb.length))), (Value.bool (decide (40 < lb.length))), u1, (eB x), (eB (evP la x)), u1, (eB x), (eB (evP la x)), undef, undef, undef, undef, undef, undef, undef, undef, undef, undef, undef, undef, undef, undef, undef, undef, undef, undef, undef, undef, undef, undef, undef, undef, undef, undef, undef, undef, undef, undef, undef] (by kernel_rfl) ?_
      refine wpL.is (v := (Value.bool true)) rfl (b_eql (c := (evP la x)) (e := (evP la x)) rfl rfl (decide_eq_true rfl)) ?_
      refine wpL.is (v := (Value.bool true)) rfl (d_move (v := (Value.bool true)) rfl) ?_
      refine wpL.onis (v := u1) rfl rfl rfl (Nat.le_of_ble_eq_true rfl) rfl (d_move (v := u1) rfl) ?_
      refine wpL.flat [u1, u2, (eB x), undef, undef, undef, (Value.bool false), (Value.bool true), (Value.bool false), u1, (eN la.length), (Value.bool false), (Value.bool false), u2, (eN lb.length), (Value.bool (decide (40 < lb.length))), (Value.bool (decide (40 < lb.length))), u1, (eB x), (eB (evP la x)), u1, (eB x), (eB (evP la x)), (Value.bool true), (Value.bool true), u1, undef, undef, undef, undef, undef, undef, undef, undef, undef, undef, undef, undef, undef, undef, undef, undef, undef, undef, undef, undef, undef, undef, undef, undef, undef, undef, undef, undef] (by kernel_rfl) ?_
      refine wpL.onis (v := u2) rfl rfl rfl (Nat.le_of_ble_eq_true rfl) rfl (d_move (v := u2) rfl) ?_
      refine wpL.on rfl rfl rfl (Nat.le_of_ble_eq_true rfl) rfl (d_call (xl := [.tmp 25, .tmp 26]) (al := [u1, u2]) Try.func17 (by kernel_rfl) rfl rfl rfl (add_ok la lb u1 u2 _ (Ps.no h1) (Ps.no h2) (by first | omega | (simp; done) | (simp; omega)) (by first | omega | (simp; done) | (simp; omega)))) ?_
      rintro u9 w7 f10
      replace f10 := f10.ps
      obtain ⟨f10, o8⟩ := f10
      replace f10 := f10.less (Y := (Old W.heap.size)) (old_old oW.size)
      replace h1 := h1.step0 o8
      replace h2 := h2.step0 o8
      replace oW := oW.tail0 o8
      refine wpL.onis (v := (eB x)) rfl rfl rfl (Nat.le_of_ble_eq_true rfl) rfl (d_move (v := (eB x)) rfl) ?_
      refine wpL.flat [u1, u2, (eB x), undef, undef, undef, (Value.bool false), (Value.bool true), (Value.bool false), u1, (eN la.length), (Value.bool false), (Value.bool false), u2, (eN lb.length), (Value.bool (decide (40 < lb.length))), (Value.bool (decide (40 < lb.length))), u1, (eB x), (eB (evP la x)), u1, (eB x), (eB (evP la x)), (Value.bool true), (Value.bool true), u1, u2, u9, (eB x), undef, undef, undef, undef, undef, undef, undef, undef, undef, undef, undef, undef, undef, undef, undef, undef, undef, undef, undef, undef, undef, undef, undef, undef, undef] (by kernel_rfl) ?_
      refine wpL.on rfl rfl rfl (Nat.le_of_ble_eq_true rfl) rfl (d_call (xl := [.tmp 27, .tmp 28]) (al := [u9, (eB x)]) Try.func14 (by kernel_rfl) rfl rfl rfl (eval_ok (addP la lb) u9 x _ (Ps.no f10) (by have := addP_len la lb; first | omega | (simp; done) | (simp; omega)))) ?_
      rintro _ w11 ⟨rfl, o12⟩
      replace h1 := h1.step0 o12
      replace h2 := h2.step0 o12
      replace f10 := f10.step0 o12
      replace oW := oW.tail0 o12
      refine wpL.onis (v := u1) rfl rfl rfl (Nat.le_of_ble_eq_true rfl) rfl (d_move (v := u1) rfl) ?_
      refine wpL.onis (v := (eB x)) rfl rfl rfl (Nat.le_of_ble_eq_true rfl) rfl (d_move (v := (eB x)) rfl) ?_
      refine wpL.flat [u1, u2, (eB x), undef, undef, undef, (Value.bool false), (Value.bool true), (Value.bool false), u1, (eN la.length), (Value.bool false), (Value.bool false), u2, (eN lb.length), (Value.bool (decide (40 < lb.length))), (Value.bool (decide (40 < lb.length))), u1, (eB x), (eB (evP la x)), u1, (eB x), (eB (evP la x)), (Value.bool true), (Value.bool true), u1, u2, u9, (eB x), (eB (evP (addP la lb) x)), u1, (eB x), undef, undef, undef, undef, undef, undef, undef, undef, undef, undef, undef, undef, undef, undef, undef, undef, undef, undef, undef, undef, undef, undef] (by kernel_rfl) ?_
      refine wpL.on rfl rfl rfl (Nat.le_of_ble_eq_true rfl) rfl (d_call (xl := [.tmp 30, .tmp 31]) (al := [u1, (eB x)]) Try.func14 (by kernel_rfl) rfl rfl rfl (eval_ok la u1 x _ (Ps.no h1) (by first | omega | (simp; done) | (simp; omega)))) ?_
      rintro _ w13 ⟨rfl, o14⟩
      replace h1 := h1.step0 o14
      replace h2 := h2.step0 o14
      replace f10 := f10.step0 o14
      replace oW := oW.tail0 o14
      refine wpL.onis (v := u2) rfl rfl rfl (Nat.le_of_ble_eq_true rfl) rfl (d_move (v := u2) rfl) ?_
      refine wpL.onis (v := (eB x)) rfl rfl rfl (Nat.le_of_ble_eq_true rfl) rfl (d_move (v := (eB x)) rfl) ?_
      refine wpL.flat [u1, u2, (eB x), undef, undef, undef, (Value.bool false), (Value.bool true), (Value.bool false), u1, (eN la.length), (Value.bool false), (Value.bool false), u2, (eN lb.length), (Value.bool (decide (40 < lb.length))), (Value.bool (decide (40 < lb.length))), u1, (eB x), (eB (evP la x)), u1, (eB x), (eB (evP la x)), (Value.bool true), (Value.bool true), u1, u2, u9, (eB x), (eB (evP (addP la lb) x)), u1, (eB x), (eB (evP la x)), u2, (eB x), undef, undef, undef, undef, undef, undef, undef, undef, undef, undef, undef, undef, undef, undef, undef, undef, undef, undef, undef] (by kernel_rfl) ?_
      refine wpL.on rfl rfl rfl (Nat.le_of_ble_eq_true rfl) rfl (d_call (xl := [.tmp 33, .tmp 34]) (al := [u2, (eB x)]) Try.func14 (by kernel_rfl) rfl rfl rfl (eval_ok lb u2 x _ (Ps.no h2) (by first | omega | (simp; done) | (simp; omega)))) ?_
      rintro _ w15 ⟨rfl, o16⟩
      replace h1 := h1.step0 o16
      replace h2 := h2.step0 o16
      replace f10 := f10.step0 o16
      replace oW := oW.tail0 o16
      refine wpL.onis (v := (eB ((evP la x) ^^^ (evP lb x)))) rfl rfl rfl (Nat.le_of_ble_eq_true rfl) rfl (b_xor (c := (evP la x)) (e := (evP lb x)) rfl rfl) ?_
      refine wpL.onis (v := (Value.bool true)) rfl rfl rfl (Nat.le_of_ble_eq_true rfl) rfl (b_eql (c := (evP (addP la lb) x)) (e := ((evP la x) ^^^ (evP lb x))) rfl rfl (decide_eq_true (evP_addP la lb x))) ?_
      refine wpL.flat [u1, u2, (eB x), undef, undef, undef, (Value.bool false), (Value.bool true), (Value.bool false), u1, (eN la.length), (Value.bool false), (Value.bool false), u2, (eN lb.length), (Value.bool (decide (40 < lb.length))), (Value.bool (decide (40 < lb.length))), u1, (eB x), (eB (evP la x)), u1, (eB x), (eB (evP la x)), (Value.bool true), (Value.bool true), u1, u2, u9, (eB x), (eB (evP (addP la lb) x)), u1, (eB x), (eB (evP la x)), u2, (eB x), (eB (evP lb x)), (eB ((evP la x) ^^^ (evP lb x))), (Value.bool true), undef, undef, undef, undef, undef, undef, undef, undef, undef, undef, undef, undef, undef, undef, undef, undef] (by kernel_rfl) ?_
      refine wpL.is (v := (Value.bool true)) rfl (d_pick (b := true) (v := (Value.bool true)) rfl rfl) ?_
      refine wpL.is (v := (Value.bool true)) rfl (d_move (v := (Value.bool true)) rfl) ?_
      refine wpL.onis (v := u1) rfl rfl rfl (Nat.le_of_ble_eq_true rfl) rfl (d_move (v := u1) rfl) ?_
      refine wpL.flat [u1, u2, (eB x), undef, undef, undef, (Value.bool false), (Value.bool true), (Value.bool false), u1, (eN la.length), (Value.bool false), (Value.bool false), u2, (eN lb.length), (Value.bool (decide (40 < lb.length))), (Value.bool (decide (40 < lb.length))), u1, (eB x), (eB (evP la x)), u1, (eB x), (eB (evP la x)), (Value.bool true), (Value.bool true), u1, u2, u9, (eB x), (eB (evP (addP la lb) x)), u1, (eB x), (eB (evP la x)), u2, (eB x), (eB (evP lb x)), (eB ((evP la x) ^^^ (evP lb x))), (Value.bool true), (Value.bool true), (Value.bool true), u1, undef, undef, undef, undef, undef, undef, undef, undef, undef, undef, undef, undef, undef] (by kernel_rfl) ?_
      refine wpL.onis (v := u2) rfl rfl rfl (Nat.le_of_ble_eq_true rfl) rfl (d_move (v := u2) rfl) ?_
      refine wpL.on rfl rfl rfl (Nat.le_of_ble_eq_true rfl) rfl (d_call (xl := [.tmp 40, .tmp 41]) (al := [u1, u2]) Try.func16 (by kernel_rfl) rfl rfl rfl (mul_ok la lb u1 u2 _ (Ps.no h1) (Ps.no h2) (by first | omega | (simp; done) | (simp; omega)) (by first | omega | (simp; done) | (simp; omega)))) ?_
      rintro u19 w17 f20
      replace f20 := f20.ps
      obtain ⟨f20, o18⟩ := f20
      replace f20 := f20.less (Y := (Old W.heap.size)) (old_old oW.size)
      replace h1 := h1.step0 o18
      replace h2 := h2.step0 o18
      replace f10 := f10.step0 o18
      replace oW := oW.tail0 o18
      refine wpL.onis (v := (eB x)) rfl rfl rfl (Nat.le_of_ble_eq_true rfl) rfl (d_move (v := (eB x)) rfl) ?_
      refine wpL.flat [u1, u2, (eB x), undef, undef, undef, (Value.bool false), (Value.bool true), (Value.bool false), u1, (eN la.length), (Value.bool false), (Value.bool false), u2, (eN lb.length), (Value.bool (decide (40 < lb.length))), (Value.bool (decide (40 < lb.length))), u1, (eB x), (eB (evP la x)), u1, (eB x), (eB (evP la x)), (Value.bool true), (Value.bool true), u1, u2, u9, (eB x), (eB (evP (addP la lb) x)), u1, (eB x), (eB (evP la x)), u2, (eB x), (eB (evP lb x)), (eB ((evP la x) ^^^ (evP lb x))), (Value.bool true), (Value.bool true), (Value.bool true), u1, u2, u19, (eB x), undef, undef, undef, undef, undef, undef, undef, undef, undef, undef] (by kernel_rfl) ?_
      refine wpL.on rfl rfl rfl (Nat.le_of_ble_eq_true rfl) rfl (d_call (xl := [.tmp 42, .tmp 43]) (al := [u19, (eB x)]) Try.func14 (by kernel_rfl) rfl rfl rfl (eval_ok (mulP la lb) u19 x _ (Ps.no f20) (by have := mulP_len la lb; first | omega | (simp; done) | (simp; omega)))) ?_
      rintro _ w21 ⟨rfl, o22⟩
      replace h1 := h1.step0 o22
      replace h2 := h2.step0 o22
      replace f10 := f10.step0 o22
      replace f20 := f20.step0 o22
      replace oW := oW.tail0 o22
      refine wpL.onis (v := u1) rfl rfl rfl (Nat.le_of_ble_eq_true rfl) rfl (d_move (v := u1) rfl) ?_
      refine wpL.onis (v := (eB x)) rfl rfl rfl (Nat.le_of_ble_eq_true rfl) rfl (d_move (v := (eB x)) rfl) ?_
      refine wpL.flat [u1, u2, (eB x), undef, undef, undef, (Value.bool false), (Value.bool true), (Value.bool false), u1, (eN la.length), (Value.bool false), (Value.bool false), u2, (eN lb.length), (Value.bool (decide (40 < lb.length))), (Value.bool (decide (40 < lb.length))), u1, (eB x), (eB (evP la x)), u1, (eB x), (eB (evP la x)), (Value.bool true), (Value.bool true), u1, u2, u9, (eB x), (eB (evP (addP la lb) x)), u1, (eB x), (eB (evP la x)), u2, (eB x), (eB (evP lb x)), (eB ((evP la x) ^^^ (evP lb x))), (Value.bool true), (Value.bool true), (Value.bool true), u1, u2, u19, (eB x), (eB (evP (mulP la lb) x)), u1, (eB x), undef, undef, undef, undef, undef, undef, undef] (by kernel_rfl) ?_
      refine wpL.on rfl rfl rfl (Nat.le_of_ble_eq_true rfl) rfl (d_call (xl := [.tmp 45, .tmp 46]) (al := [u1, (eB x)]) Try.func14 (by kernel_rfl) rfl rfl rfl (eval_ok la u1 x _ (Ps.no h1) (by first | omega | (simp; done) | (simp; omega)))) ?_
      rintro _ w23 ⟨rfl, o24⟩
      replace h1 := h1.step0 o24
      replace h2 := h2.step0 o24
      replace f10 := f10.step0 o24
      replace f20 := f20.step0 o24
      replace oW := oW.tail0 o24
      refine wpL.onis (v := u2) rfl rfl rfl (Nat.le_of_ble_eq_true rfl) rfl (d_move (v := u2) rfl) ?_
      refine wpL.onis (v := (eB x)) rfl rfl rfl (Nat.le_of_ble_eq_true rfl) rfl (d_move (v := (eB x)) rfl) ?_
      refine wpL.flat [u1, u2, (eB x), undef, undef, undef, (Value.bool false), (Value.bool true), (Value.bool false), u1, (eN la.length), (Value.bool false), (Value.bool false), u2, (eN lb.length), (Value.bool (decide (40 < lb.length))), (Value.bool (decide (40 < lb.length))), u1, (eB x), (eB (evP la x)), u1, (eB x), (eB (evP la x)), (Value.bool true), (Value.bool true), u1, u2, u9, (eB x), (eB (evP (addP la lb) x)), u1, (eB x), (eB (evP la x)), u2, (eB x), (eB (evP lb x)), (eB ((evP la x) ^^^ (evP lb x))), (Value.bool true), (Value.bool true), (Value.bool true), u1, u2, u19, (eB x), (eB (evP (mulP la lb) x)), u1, (eB x), (eB (evP la x)), u2, (eB x), undef, undef, undef, undef] (by kernel_rfl) ?_
      refine wpL.on rfl rfl rfl (Nat.le_of_ble_eq_true rfl) rfl (d_call (xl := [.tmp 48, .tmp 49]) (al := [u2, (eB x)]) Try.func14 (by kernel_rfl) rfl rfl rfl (eval_ok lb u2 x _ (Ps.no h2) (by first | omega | (simp; done) | (simp; omega)))) ?_
      rintro _ w25 ⟨rfl, o26⟩
      replace h1 := h1.step0 o26
      replace h2 := h2.step0 o26
      replace f10 := f10.step0 o26
      replace f20 := f20.step0 o26
      replace oW := oW.tail0 o26
      refine wpL.on rfl rfl rfl (Nat.le_of_ble_eq_true rfl) rfl (d_call (xl := [.tmp 47, .tmp 50]) (al := [(eB (evP la x)), (eB (evP lb x))]) Try.func20 (by kernel_rfl) rfl rfl rfl (ref2Mul_ok (evP la x) (evP lb x) _)) ?_
      rintro _ w27 ⟨rfl, o28⟩
      replace h1 := h1.step0 o28
      replace h2 := h2.step0 o28
      replace f10 := f10.step0 o28
      replace f20 := f20.step0 o28
      replace oW := oW.tail0 o28
      refine wpL.onis (v := (Value.bool true)) rfl rfl rfl (Nat.le_of_ble_eq_true rfl) rfl (b_eql (c := (evP (mulP la lb) x)) (e := (gm (evP la x) (evP lb x))) rfl rfl (decide_eq_true (evP_mulP la lb x))) ?_
      refine wpL.flat [u1, u2, (eB x), undef, undef, undef, (Value.bool false), (Value.bool true), (Value.bool false), u1, (eN la.length), (Value.bool false), (Value.bool false), u2, (eN lb.length), (Value.bool (decide (40 < lb.length))), (Value.bool (decide (40 < lb.length))), u1, (eB x), (eB (evP la x)), u1, (eB x), (eB (evP la x)), (Value.bool true), (Value.bool true), u1, u2, u9, (eB x), (eB (evP (addP la lb) x)), u1, (eB x), (eB (evP la x)), u2, (eB x), (eB (evP lb x)), (eB ((evP la x) ^^^ (evP lb x))), (Value.bool true), (Value.bool true), (Value.bool true), u1, u2, u19, (eB x), (eB (evP (mulP la lb) x)), u1, (eB x), (eB (evP la x)), u2, (eB x), (eB (evP lb x)), (eB (gm (evP la x) (evP lb x))), (Value.bool true), undef] (by kernel_rfl) ?_
      refine wpL.is (v := (Value.bool true)) rfl (d_pick (b := true) (v := (Value.bool true)) rfl rfl) ?_
      refine wpL.is (v := (Value.bool true)) rfl (d_assign (v := (Value.bool true)) rfl) ?_
      refine wpL.flat [u1, u2, (eB x), undef, undef, undef, (Value.bool true), (Value.bool true), (Value.bool false), u1, (eN la.length), (Value.bool false), (Value.bool false), u2, (eN lb.length), (Value.bool (decide (40 < lb.length))), (Value.bool (decide (40 < lb.length))), u1, (eB x), (eB (evP la x)), u1, (eB x), (eB (evP la x)), (Value.bool true), (Value.bool true), u1, u2, u9, (eB x), (eB (evP (addP la lb) x)), u1, (eB x), (eB (evP la x)), u2, (eB x), (eB (evP lb x)), (eB ((evP la x) ^^^ (evP lb x))), (Value.bool true), (Value.bool true), (Value.bool true), u1, u2, u19, (eB x), (eB (evP (mulP la lb) x)), u1, (eB x), (eB (evP la x)), u2, (eB x), (eB (evP lb x)), (eB (gm (evP la x) (evP lb x))), (Value.bool true), (Value.bool true)] (by kernel_rfl) ?_
      refine wpL.done ?_
      refine then_n ?_
      refine wpIn_ret ?_
      refine leave0 (v := (Value.bool true)) (res1 Try.results5 rfl) ?_
      exact ⟨rfl, oW⟩

set_option maxRecDepth 20000 in
set_option maxHeartbeats 1000000 in
theorem polyTwo_ok (la lb : List UInt8) (u1 u2 : Value) (W : World) (h1 : Ps No (Seq kB la u1) W) (h2 : Ps No (Seq kB lb u2) W) :
    CW Try.prog 8 #[u1, u2] W (Rt (RIs (.bool true) W)) := by
  have oW : Only No W W := Only.refl _ _
  refine enter (al := [u1, u2]) (k := 81) (l := [u1, u2, undef, undef, undef, undef, undef, undef, undef, undef, undef, undef, undef, undef, undef, undef, undef, undef, undef, undef, undef, undef, undef, undef, undef, undef, undef, undef, undef, undef, undef, undef, undef, undef, undef, undef, undef, undef, undef, undef, undef, undef, undef, undef, undef, undef, undef, undef, undef, undef, undef, undef, undef, undef, undef, undef, undef, undef, undef, undef, undef, undef, undef, undef, undef, undef, undef, undef, undef, undef, undef, undef, undef, undef, undef, undef, undef, undef, undef, undef, undef, undef, undef]) Try.func8 rfl Try.ntmps8 rfl rfl ?_
  refine wpIn_seq ?_
  refine plain ?_
  refine wpL.is (v := (Value.bool false)) rfl (d_assign (v := (Value.bool false)) rfl) ?_
  refine wpL.flat [u1, u2, undef, undef, (Value.bool false), undef, undef, undef, undef, undef, undef, undef, undef, undef, undef, undef, undef, undef, undef, undef, undef, undef, undef, undef, undef, undef, undef, undef, undef, undef, undef, undef, undef, undef, undef, undef, undef, undef, undef, undef, undef, undef, undef, undef, undef, undef, undef, undef, undef, undef, undef, undef, undef, undef, undef, undef, undef, undef, undef, undef, undef, undef, undef, undef, undef, undef, undef, undef, undef, undef, undef, undef, undef, undef, undef, undef, undef, undef, undef, undef, undef, undef, undef] (by kernel_rfl) ?_
  refine wpL.done ?_
  refine then_n ?_
  refine wpIn_seq ?_
  refine wpIn_seq ?_
  refine plain ?_
  refine wpL.op rfl (d_call (xl := []) (al := []) Try.func10 (by kernel_rfl) rfl rfl rfl (known_ok _)) ?_
  rintro _ w1 ⟨rfl, o2⟩
  replace h1 := h1.step0 o2
  replace h2 := h2.step0 o2
  replace oW := oW.tail0 o2
  refine wpL.is (v := (Value.bool false)) rfl (d_not rfl rfl) ?_
  refine wpL.flat [u1, u2, undef, undef, (Value.bool false), undef, undef, undef, undef, undef, undef, (Value.bool true), (Value.bool false), undef, undef, undef, undef, undef, undef, undef, undef, undef, undef, undef, undef, undef, undef, undef, undef, undef, undef, undef, undef, undef, undef, undef, undef, undef, undef, undef, undef, undef, undef, undef, undef, undef, undef, undef, undef, undef, undef, undef, undef, undef, undef, undef, undef, undef, undef, undef, undef, undef, undef, undef, undef, undef, undef, undef, undef, undef, undef, undef, undef, undef, undef, undef, undef, undef, undef, undef, undef, undef, undef] (by kernel_rfl) ?_
  refine wpL.done ?_
  refine then_n ?_
  refine cond_f rfl ?_
  refine wpIn_skip ?_
  refine then_n ?_
  refine wpIn_seq ?_
  refine wpIn_seq ?_
  by_cases k1 : 40 < la.length
  · skip
    refine plain ?_
    refine wpL.is (v := u1) rfl (d_move (v := u1) rfl) ?_
    refine wpL.is (v := (eN la.length)) rfl (d_lenS rfl Try.underlying23 rfl h1) ?_
    refine wpL.is (v := (Value.bool true)) rfl (n_gtr (a := la.length) (b := 40) rfl rfl (decide_eq_true k1)) ?_
    refine wpL.flat [u1, u2, undef, undef, (Value.bool false), undef, undef, undef, undef, undef, undef, (Value.bool true), (Value.bool false), u1, (eN la.length), (Value.bool true), undef, undef, undef, undef, undef, undef, undef, undef, undef, undef, undef, undef, undef, undef, undef, undef, undef, undef, undef, undef, undef, undef, undef, undef, undef, undef, undef, undef, undef, undef, undef, undef, undef, undef, undef, undef, undef, undef, undef, undef, undef, undef, undef, undef, undef, undef, undef, undef, undef, undef, undef, undef, undef, undef, undef, undef, undef, undef, undef, undef, undef, undef, undef, undef, undef, undef, undef] (by kernel_rfl) ?_
    refine wpL.is (v := (Value.bool true)) rfl (d_move (v := (Value.bool true)) rfl) ?_
    refine wpL.off rfl rfl rfl (Nat.le_of_ble_eq_true rfl) rfl ?_
    refine wpL.flat [u1, u2, undef, undef, (Value.bool false), undef, undef, undef, undef, undef, undef, (Value.bool true), (Value.bool false), u1, (eN la.length), (Value.bool true), (Value.bool true), undef, undef, undef, undef, undef, undef, undef, undef, undef, undef, undef, undef, undef, undef, undef, undef, undef, undef, undef, undef, undef, undef, undef, undef, undef, undef, undef, undef, undef, undef, undef, undef, undef, undef, undef, undef, undef, undef, undef, undef, undef, undef, undef, undef, undef, undef, undef, undef, undef, undef, undef, undef, undef, undef, undef, undef, undef, undef, undef, undef, undef, undef, undef, undef, undef, undef] (by kernel_rfl) ?_
    refine wpL.off rfl rfl rfl (Nat.le_of_ble_eq_true rfl) rfl ?_
    refine wpL.off rfl rfl rfl (Nat.le_of_ble_eq_true rfl) rfl ?_
    refine wpL.is (v := (Value.bool true)) rfl (d_pick (b := true) (v := (Value.bool true)) rfl rfl) ?_
    refine wpL.flat [u1, u2, undef, undef, (Value.bool false), undef, undef, undef, undef, undef, undef, (Value.bool true), (Value.bool false), u1, (eN la.length), (Value.bool true), (Value.bool true), undef, undef, undef, (Value.bool true), undef, undef, undef, undef, undef, undef, undef, undef, undef, undef, undef, undef, undef, undef, undef, undef, undef, undef, undef, undef, undef, undef, undef, undef, undef, undef, undef, undef, undef, undef, undef, undef, undef, undef, undef, undef, undef, undef, undef, undef, undef, undef, undef, undef, undef, undef, undef, undef, undef, undef, undef, undef, undef, undef, undef, undef, undef, undef, undef, undef, undef, undef] (by kernel_rfl) ?_
    refine wpL.done ?_
    refine then_n ?_
    refine cond_t rfl ?_
    refine wpIn_seq ?_
    refine plain ?_
    refine wpL.is (v := (Value.bool true)) rfl (d_assign (v := (Value.bool true)) rfl) ?_
    refine wpL.flat [u1, u2, undef, undef, (Value.bool true), undef, undef, undef, undef, undef, undef, (Value.bool true), (Value.bool false), u1, (eN la.length), (Value.bool true), (Value.bool true), undef, undef, undef, (Value.bool true), undef, undef, undef, undef, undef, undef, undef, undef, undef, undef, undef, undef, undef, undef, undef, undef, undef, undef, undef, undef, undef, undef, undef, undef, undef, undef, undef, undef, undef, undef, undef, undef, undef, undef, undef, undef, undef, undef, undef, undef, undef, undef, undef, undef, undef, undef, undef, undef, undef, undef, undef, undef, undef, undef, undef, undef, undef, undef, undef, undef, undef, undef] (by kernel_rfl) ?_
    refine wpL.done ?_
    refine then_n ?_
    refine wpIn_ret ?_
    refine then_r ?_
    refine leave0 (v := (Value.bool true)) (res1 Try.results8 rfl) ?_
    exact ⟨rfl, oW⟩
  · skip
    refine plain ?_
    refine wpL.is (v := u1) rfl (d_move (v := u1) rfl) ?_
    refine wpL.is (v := (eN la.length)) rfl (d_lenS rfl Try.underlying23 rfl h1) ?_
    refine wpL.is (v := (Value.bool false)) rfl (n_gtr (a := la.length) (b := 40) rfl rfl (decide_eq_false k1)) ?_
    refine wpL.flat [u1, u2, undef, undef, (Value.bool false), undef, undef, undef, undef, undef, undef, (Value.bool true), (Value.bool false), u1, (eN la.length), (Value.bool false), undef, undef, undef, undef, undef, undef, undef, undef, undef, undef, undef, undef, undef, undef, undef, undef, undef, undef, undef, undef, undef, undef, undef, undef, undef, undef, undef, undef, undef, undef, undef, undef, undef, undef, undef, undef, undef, undef, undef, undef, undef, undef, undef, undef, undef, undef, undef, undef, undef, undef, undef, undef, undef, undef, undef, undef, undef, undef, undef, undef, undef, undef, undef, undef, undef, undef, undef] (by kernel_rfl) ?_
    refine wpL.is (v := (Value.bool false)) rfl (d_move (v := (Value.bool false)) rfl) ?_
    refine wpL.onis (v := u2) rfl rfl rfl (Nat.le_of_ble_eq_true rfl) rfl (d_move (v := u2) rfl) ?_
    refine wpL.onis (v := (eN lb.length)) rfl rfl rfl (Nat.le_of_ble_eq_true rfl) rfl (d_lenS rfl Try.underlying23 rfl h2) ?_
    refine wpL.flat [u1, u2, undef, undef, (Value.bool false), undef, undef, undef, undef, undef, undef, (Value.bool true), (Value.bool false), u1, (eN la.length), (Value.bool false), (Value.bool false), u2, (eN lb.length), undef, undef, undef, undef, undef, undef, undef, undef, undef, undef, undef, undef, undef, undef, undef, undef, undef, undef, undef, undef, undef, undef, undef, undef, undef, undef, undef, undef, undef, undef, undef, undef, undef, undef, undef, undef, undef, undef, undef, undef, undef, undef, undef, undef, undef, undef, undef, undef, undef, undef, undef, undef, undef, undef, undef, undef, undef, undef, undef, undef, undef, undef, undef, undef] (by kernel_rfl) ?_
    refine wpL.onis (v := (Value.bool (decide (40 < lb.length)))) rfl rfl rfl (Nat.le_of_ble_eq_true rfl) rfl (n_gtr (a := lb.length) (b := 40) rfl rfl rfl) ?_
    refine wpL.is (v := (Value.bool (decide (40 < lb.length)))) rfl (d_pick (b := false) (v := (Value.bool (decide (40 < lb.length)))) rfl rfl) ?_
    refine wpL.flat [u1, u2, undef, undef, (Value.bool false), undef, undef, undef, undef, undef, undef, (Value.bool true), (Value.bool false), u1, (eN la.length), (Value.bool false), (Value.bool false), u2, (eN lb.length), (Value.bool (decide (40 < lb.length))), (Value.bool (decide (40 < lb.length))), undef, undef, undef, undef, undef, undef, undef, undef, undef, undef, undef, undef, undef, undef, undef, undef, undef, undef, undef, undef, undef, undef, undef, undef, undef, undef, undef, undef, undef, undef, undef, undef, undef, undef, undef, undef, undef, undef, undef, undef, undef, undef, undef, undef, undef, undef, undef, undef, undef, undef, undef, undef, undef, undef, undef, undef, undef, undef, undef, undef, undef, undef] (by kernel_rfl) ?_
    refine wpL.done ?_
    refine then_n ?_
    refine cond_if rfl (fun k2 => ?_) (fun k2 => ?_)
    · skip
      refine wpIn_seq ?_
      refine plain ?_
      refine wpL.is (v := (Value.bool true)) rfl (d_assign (v := (Value.bool true)) rfl) ?_
      refine wpL.flat [u1, u2, undef, undef, (Value.bool true), undef, undef, undef, undef, undef, undef, (Value.bool true), (Value.bool false), u1, (eN la.length), (Value.bool false), (Value.bool false), u2, (eN lb.length), (Value.bool (decide (40 < lb.length))), (Value.bool (decide (40 < lb.length))), undef, undef, undef, undef, undef, undef, undef, undef, undef, undef, undef, undef, undef, undef, undef, undef, undef, undef, undef, undef, undef, undef, undef, undef, undef, undef, undef, undef, undef, undef, undef, undef, undef, undef, undef, undef, undef, undef, undef, undef, undef, undef, undef, undef, undef, undef, undef, undef, undef, undef, undef, undef, undef, undef, undef, undef, undef, undef, undef, undef, undef, undef] (by kernel_rfl) ?_
      refine wpL.done ?_
      refine then_n ?_
      refine wpIn_ret ?_
      refine then_r ?_
      refine leave0 (v := (Value.bool true)) (res1 Try.results8 rfl) ?_
      exact ⟨rfl, oW⟩
    · skip
      refine wpIn_skip ?_
      refine then_n ?_
      refine wpIn_seq ?_
      refine plain ?_
      refine wpL.is (v := u1) rfl (d_move (v := u1) rfl) ?_
      refine wpL.is (v := u2) rfl (d_move (v := u2) rfl) ?_
      refine wpL.op rfl (d_call (xl := [.tmp 22, .tmp 23]) (al := [u1, u2]) Try.func21 (by kernel_rfl) rfl rfl rfl (div_ok la lb u1 u2 _ (Ps.no h1) (Ps.no h2) (by first | omega | (simp; done) | (simp; omega)) (by first | omega | (simp; done) | (simp; omega)))) ?_
      rintro _ w3 ⟨u5, u7, rfl, f6, f8, o4⟩
      replace f6 := f6.less (Y := (Old W.heap.size)) (old_old oW.size)
      replace f8 := f8.less (Y := (Old W.heap.size)) (old_old oW.size)
      replace h1 := h1.step0 o4
      replace h2 := h2.step0 o4
      replace oW := oW.tail0 o4
      refine wpL.flat [u1, u2, undef, undef, (Value.bool false), undef, undef, undef, undef, undef, undef, (Value.bool true), (Value.bool false), u1, (eN la.length), (Value.bool false), (Value.bool false), u2, (eN lb.length), (Value.bool (decide (40 < lb.length))), (Value.bool (decide (40 < lb.length))), undef, u1, u2, (Value.tuple #[u5, u7, (Value.bool (isP lb))]), undef, undef, undef, undef, undef, undef, undef, undef, undef, undef, undef, undef, undef, undef, undef, undef, undef, undef, undef, undef, undef, undef, undef, undef, undef, undef, undef, undef, undef, undef, undef, undef, undef, undef, undef, undef, undef, undef, undef, undef, undef, undef, undef, undef, undef, undef, undef, undef, undef, undef, undef, undef, undef, undef, undef, undef, undef, undef] (by kernel_rfl) ?_
      refine wpL.is (v := (Value.tuple #[u5, u7, (Value.bool (isP lb))])) rfl (d_move (v := (Value.tuple #[u5, u7, (Value.bool (isP lb))])) rfl) ?_
      refine wpL.is (v := u5) rfl (d_extract (v := u5) rfl rfl) ?_
      refine wpL.is (v := u7) rfl (d_extract (v := u7) rfl rfl) ?_
      refine wpL.flat [u1, u2, undef, undef, (Value.bool false), undef, undef, undef, undef, undef, undef, (Value.bool true), (Value.bool false), u1, (eN la.length), (Value.bool false), (Value.bool false), u2, (eN lb.length), (Value.bool (decide (40 < lb.length))), (Value.bool (decide (40 < lb.length))), (Value.tuple #[u5, u7, (Value.bool (isP lb))]), u1, u2, (Value.tuple #[u5, u7, (Value.bool (isP lb))]), u5, u7, undef, undef, undef, undef, undef, undef, undef, undef, undef, undef, undef, undef, undef, undef, undef, undef, undef, undef, undef, undef, undef, undef, undef, undef, undef, undef, undef, undef, undef, undef, undef, undef, undef, undef, undef, undef, undef, undef, undef, undef, undef, undef, undef, undef, undef, undef, undef, undef, undef, undef, undef, undef, undef, undef, undef, undef] (by kernel_rfl) ?_
      refine wpL.is (v := (Value.bool (isP lb))) rfl (d_extract (v := (Value.bool (isP lb))) rfl rfl) ?_
      refine wpL.is (v := u5) rfl (d_assign (v := u5) rfl) ?_
      refine wpL.is (v := u7) rfl (d_assign (v := u7) rfl) ?_
      refine wpL.flat [u1, u2, undef, undef, (Value.bool false), u5, u7, undef, undef, undef, undef, (Value.bool true), (Value.bool false), u1, (eN la.length), (Value.bool false), (Value.bool false), u2, (eN lb.length), (Value.bool (decide (40 < lb.length))), (Value.bool (decide (40 < lb.length))), (Value.tuple #[u5, u7, (Value.bool (isP lb))]), u1, u2, (Value.tuple #[u5, u7, (Value.bool (isP lb))]), u5, u7, (Value.bool (isP lb)), undef, undef, undef, undef, undef, undef, undef, undef, undef, undef, undef, undef, undef, undef, undef, undef, undef, undef, undef, undef, undef, undef, undef, undef, undef, undef, undef, undef, undef, undef, undef, undef, undef, undef, undef, undef, undef, undef, undef, undef, undef, undef, undef, undef, undef, undef, undef, undef, undef, undef, undef, undef, undef, undef, undef] (by kernel_rfl) ?_
      refine wpL.is (v := (Value.bool (isP lb))) rfl (d_assign (v := (Value.bool (isP lb))) rfl) ?_
      refine wpL.flat [u1, u2, undef, undef, (Value.bool false), u5, u7, (Value.bool (isP lb)), undef, undef, undef, (Value.bool true), (Value.bool false), u1, (eN la.length), (Value.bool false), (Value.bool false), u2, (eN lb.length), (Value.bool (decide (40 < lb.length))), (Value.bool (decide (40 < lb.length))), (Value.tuple #[u5, u7, (Value.bool (isP lb))]), u1, u2, (Value.tuple #[u5, u7, (Value.bool (isP lb))]), u5, u7, (Value.bool (isP lb)), undef, undef, undef, undef, undef, undef, undef, undef, undef, undef, undef, undef, undef, undef, undef, undef, undef, undef, undef, undef, undef, undef, undef, undef, undef, undef, undef, undef, undef, undef, undef, undef, undef, undef, undef, undef, undef, undef, undef, undef, undef, undef, undef, undef, undef, undef, undef, undef, undef, undef, undef, undef, undef, undef, undef] (by kernel_rfl) ?_
      refine wpL.done ?_
      refine then_n ?_
      refine wpIn_seq ?_
      refine plain ?_
      refine wpL.is (v := u1) rfl (d_move (v := u1) rfl) ?_
      refine wpL.is (v := u2) rfl (d_move (v := u2) rfl) ?_
      refine wpL.op rfl (d_call (xl := [.tmp 29, .tmp 30]) (al := [u1, u2]) Try.func22 (by kernel_rfl) rfl rfl rfl (ref3Div_ok la lb u1 u2 _ (Ps.no h1) (Ps.no h2) (by first | omega | (simp; done) | (simp; omega)) (by first | omega | (simp; done) | (simp; omega)))) ?_
      rintro _ w11 ⟨u13, u15, rfl, f14, f16, o12⟩
      replace f14 := f14.less (Y := (Old W.heap.size)) (old_old oW.size)
      replace f16 := f16.less (Y := (Old W.heap.size)) (old_old oW.size)
      replace h1 := h1.step0 o12
      replace h2 := h2.step0 o12
      replace f6 := f6.step0 o12
      replace f8 := f8.step0 o12
      replace oW := oW.tail0 o12
      refine wpL.flat [u1, u2, undef, undef, (Value.bool false), u5, u7, (Value.bool (isP lb)), undef, undef, undef, (Value.bool true), (Value.bool false), u1, (eN la.length), (Value.bool false), (Value.bool false), u2, (eN lb.length), (Value.bool (decide (40 < lb.length))), (Value.bool (decide (40 < lb.length))), (Value.tuple #[u5, u7, (Value.bool (isP lb))]), u1, u2, (Value.tuple #[u5, u7, (Value.bool (isP lb))]), u5, u7, (Value.bool (isP lb)), undef, u1, u2, (Value.tuple #[u13, u15, (Value.bool (isP lb))]), undef, undef, undef, undef, undef, undef, undef, undef, undef, undef, undef, undef, undef, undef, undef, undef, undef, undef, undef, undef, undef, undef, undef, undef, undef, undef, undef, undef, undef, undef, undef, undef, undef, undef, undef, undef, undef, undef, undef, undef, undef, undef, undef, undef, undef, undef, undef, undef, undef, undef, undef] (by kernel_rfl) ?_
      refine wpL.is (v := (Value.tuple #[u13, u15, (Value.bool (isP lb))])) rfl (d_move (v := (Value.tuple #[u13, u15, (Value.bool (isP lb))])) rfl) ?_
      refine wpL.is (v := u13) rfl (d_extract (v := u13) rfl rfl) ?_
      refine wpL.is (v := u15) rfl (d_extract (v := u15) rfl rfl) ?_
      refine wpL.flat [u1, u2, undef, undef, (Value.bool false), u5, u7, (Value.bool (isP lb)), undef, undef, undef, (Value.bool true), (Value.bool false), u1, (eN la.length), (Value.bool false), (Value.bool false), u2, (eN lb.length), (Value.bool (decide (40 < lb.length))), (Value.bool (decide (40 < lb.length))), (Value.tuple #[u5, u7, (Value.bool (isP lb))]), u1, u2, (Value.tuple #[u5, u7, (Value.bool (isP lb))]), u5, u7, (Value.bool (isP lb)), (Value.tuple #[u13, u15, (Value.bool (isP lb))]), u1, u2, (Value.tuple #[u13, u15, (Value.bool (isP lb))]), u13, u15, undef, undef, undef, undef, undef, undef, undef, undef, undef, undef, undef, undef, undef, undef, undef, undef, undef, undef, undef, undef, undef, undef, undef, undef, undef, undef, undef, undef, undef, undef, undef, undef, undef, undef, undef, undef, undef, undef, undef, undef, undef, undef, undef, undef, undef, undef, undef, undef, undef] (by kernel_rfl) ?_
      refine wpL.is (v := (Value.bool (isP lb))) rfl (d_extract (v := (Value.bool (isP lb))) rfl rfl) ?_
      refine wpL.is (v := u13) rfl (d_assign (v := u13) rfl) ?_
      refine wpL.is (v := u15) rfl (d_assign (v := u15) rfl) ?_
      refine wpL.flat [u1, u2, undef, undef, (Value.bool false), u5, u7, (Value.bool (isP lb)), u13, u15, undef, (Value.bool true), (Value.bool false), u1, (eN la.length), (Value.bool false), (Value.bool false), u2, (eN lb.length), (Value.bool (decide (40 < lb.length))), (Value.bool (decide (40 < lb.length))), (Value.tuple #[u5, u7, (Value.bool (isP lb))]), u1, u2, (Value.tuple #[u5, u7, (Value.bool (isP lb))]), u5, u7, (Value.bool (isP lb)), (Value.tuple #[u13, u15, (Value.bool (isP lb))]), u1, u2, (Value.tuple #[u13, u15, (Value.bool (isP lb))]), u13, u15, (Value.bool (isP lb)), undef, undef, undef, undef, undef, undef, undef, undef, undef, undef, undef, undef, undef, undef, undef, undef, undef, undef, undef, undef, undef, undef, undef, undef, undef, undef, undef, undef, undef, undef, undef, undef, undef, undef, undef, undef, undef, undef, undef, undef, undef, undef, undef, undef, undef, undef, undef, undef] (by kernel_rfl) ?_
      refine wpL.is (v := (Value.bool (isP lb))) rfl (d_assign (v := (Value.bool (isP lb))) rfl) ?_
      refine wpL.flat [u1, u2, undef, undef, (Value.bool false), u5, u7, (Value.bool (isP lb)), u13, u15, (Value.bool (isP lb)), (Value.bool true), (Value.bool false), u1, (eN la.length), (Value.bool false), (Value.bool false), u2, (eN lb.length), (Value.bool (decide (40 < lb.length))), (Value.bool (decide (40 < lb.length))), (Value.tuple #[u5, u7, (Value.bool (isP lb))]), u1, u2, (Value.tuple #[u5, u7, (Value.bool (isP lb))]), u5, u7, (Value.bool (isP lb)), (Value.tuple #[u13, u15, (Value.bool (isP lb))]), u1, u2, (Value.tuple #[u13, u15, (Value.bool (isP lb))]), u13, u15, (Value.bool (isP lb)), undef, undef, undef, undef, undef, undef, undef, undef, undef, undef, undef, undef, undef, undef, undef, undef, undef, undef, undef, undef, undef, undef, undef, undef, undef, undef, undef, undef, undef, undef, undef, undef, undef, undef, undef, undef, undef, undef, undef, undef, undef, undef, undef, undef, undef, undef, undef, undef] (by kernel_rfl) ?_
      refine wpL.done ?_
      refine then_n ?_
      refine wpIn_seq ?_
      refine drawn' (O := No) (n := 49) [0, 0, 3, 7, 0, 0, 55, 119, 255, 511, 1023, 1023, 4095, 8191, 1023, 1023, 57343, 122879, 262143, 524287, 1048575, 2097151, 4194303, 2097151, 10485759, 33554431, 67108863, 134217727, 268435455, 536870911, 268435455, 1342177279, 4294967295, 8589934591, 17179869183, 34359738367, 34359738367, 137438953471, 274877906943, 549755813887, 1099511627775, 2199023255551, 4398046511103, 1099511627775, 13194139533311, 30786325577727, 70368744177663, 140737488355327, 281474976710655] [(0, 35), (1, 36), (2, 37), (3, 38), (4, 39), (5, 40), (6, 41), (7, 42), (8, 43), (9, 44), (10, 45), (11, 46), (12, 47), (13, 48), (14, 49), (15, 50), (16, 51), (17, 52), (18, 53), (19, 54), (20, 55), (21, 56), (22, 57), (23, 58), (24, 59), (25, 60), (26, 61), (27, 62), (28, 63), (29, 64), (30, 65), (31, 66), (32, 67), (33, 68), (34, 69), (35, 70), (36, 71), (37, 72), (38, 73), (39, 74), (40, 75), (41, 76), (42, 77), (43, 78), (44, 79), (45, 80), (46, 81), (47, 82), (48, 4)] [0, 1, 2, 3, 4, 5, 6, 7, 8, 9, 10, 11, 12, 13, 14, 15, 16, 17, 18, 19, 20, 21, 22, 23, 24, 25, 26, 27, 28, 29, 30, 31, 32, 33, 34, 35, 36, 37, 38, 39, 40, 41, 42, 43, 44, 45, 46, 47, 48] [] (fun i_ => ([RF.is No u1, RF.is No u2, RF.ps No (Old W.heap.size) (Seq kB (addP la lb)) no_any, RF.is No (Value.string (strOf (addP la lb))), RF.is No u1, RF.is No u2, RF.ps No (Old W.heap.size) (Seq kB (addP la lb)) no_any, RF.is No (Value.string (strOf (addP la lb))), RF.is No (Value.bool true), RF.is No (Value.bool true), RF.is No u1, RF.is No u2, RF.ps No (Old W.heap.size) (Seq kB (mulP la lb)) no_any, RF.is No (Value.string (strOf (mulP la lb))), RF.is No u1, RF.is No u2, RF.ps No (Old W.heap.size) (Seq kB (mulP la lb)) no_any, RF.is No (Value.string (strOf (mulP la lb))), RF.is No (Value.bool true), RF.is No (Value.bool true), RF.is No (Value.bool true), RF.is No u5, RF.is No (Value.string (strOf (quoP la lb))), RF.is No u13, RF.is No (Value.string (strOf (quoP la lb))), RF.is No (Value.bool true), RF.is No (Value.bool true), RF.is No (Value.bool true), RF.is No u7, RF.is No (Value.string (strOf (remP la lb))), RF.is No u15, RF.is No (Value.string (strOf (remP la lb))), RF.is No (Value.bool true), RF.is No (Value.bool true), RF.is No (Value.bool true), RF.is No (Value.bool (isP lb)), RF.is No (Value.bool (isP lb)), RF.is No (Value.bool true), RF.is No (Value.bool true), RF.is No (Value.bool true), RF.is No u1, RF.ps No (Old W.heap.size) (Seq kB (trimL la)) no_any, RF.is No (Value.string (strOf (trimL la))), RF.is No u1, RF.ps No (Old W.heap.size) (Seq kB (trimL la)) no_any, RF.is No (Value.string (strOf (trimL la))), RF.is No (Value.bool true), RF.is No (Value.bool true), RF.is No (Value.bool true)] : List (RF No)).getD i_ (RF.any No)) (fun _ w_ => True) (fun v19 => [u1, u2, undef, undef, (v19 48), u5, u7, (Value.bool (isP lb)), u13, u15, (Value.bool (isP lb)), (Value.bool true), (Value.bool false), u1, (eN la.length), (Value.bool false), (Value.bool false), u2, (eN lb.length), (Value.bool (decide (40 < lb.length))), (Value.bool (decide (40 < lb.length))), (Value.tuple #[u5, u7, (Value.bool (isP lb))]), u1, u2, (Value.tuple #[u5, u7, (Value.bool (isP lb))]), u5, u7, (Value.bool (isP lb)), (Value.tuple #[u13, u15, (Value.bool (isP lb))]), u1, u2, (Value.tuple #[u13, u15, (Value.bool (isP lb))]), u13, u15, (Value.bool (isP lb)), (v19 0), (v19 1), (v19 2), (v19 3), (v19 4), (v19 5), (v19 6), (v19 7), (v19 8), (v19 9), (v19 10), (v19 11), (v19 12), (v19 13), (v19 14), (v19 15), (v19 16), (v19 17), (v19 18), (v19 19), (v19 20), (v19 21), (v19 22), (v19 23), (v19 24), (v19 25), (v19 26), (v19 27), (v19 28), (v19 29), (v19 30), (v19 31), (v19 32), (v19 33), (v19 34), (v19 35), (v19 36), (v19 37), (v19 38), (v19 39), (v19 40), (v19 41), (v19 42), (v19 43), (v19 44), (v19 45), (v19 46), (v19 47)]) s_mx (by kernel_rfl) rfl (by decide) (by rfl) (fun v_ => by kernel_rfl) (fun _ => fun _ _ _ _ => trivial) trivial ?_ ?_ ?_
      · skip
        refine ls_cons ?_ ?_
        · intro v19 lo hi w_ k_ hO hd _ _ hk_ _ hR hold
          clear hd hold
          refine ⟨_, rfl, gd rfl ?_⟩
          exact Does.is (d_move (v := u1) rfl)
        refine ls_cons ?_ ?_
        · intro v19 lo hi w_ k_ hO hd _ _ hk_ _ hR hold
          clear hd hold
          refine ⟨_, rfl, gd rfl ?_⟩
          exact Does.is (d_move (v := u2) rfl)
        refine ls_cons ?_ ?_
        · intro v19 lo hi w_ k_ hO hd _ _ hk_ _ hR hold
          have e0 : v19 0 = u1 := hd 0 (by kernel_rfl)
          have e1 : v19 1 = u2 := hd 1 (by kernel_rfl)
          clear hd hold
          refine ⟨_, rfl, gd rfl ?_⟩
          refine Does.mono (R := ROw 5 eB (addP la lb) w_) ?_ (fun u w' h => ⟨(h.ps).1.less (old_old (Nat.le_trans oW.size hO.size)), (h.ps).2⟩)
          exact d_call (xl := [.tmp 35, .tmp 36]) (al := [u1, u2]) Try.func17 (by kernel_rfl) rfl (show ([(v19 0), (v19 1)] : List Value) = [u1, u2] from by rw [e0, e1]) rfl (add_ok la lb u1 u2 _ (Ps.no (h1.step hO no_any)) (Ps.no (h2.step hO no_any)) (by first | omega | (simp; done) | (simp; omega)) (by first | omega | (simp; done) | (simp; omega)))
        refine ls_cons ?_ ?_
        · intro v19 lo hi w_ k_ hO hd _ _ hk_ _ hR hold
          have d2 : Ps (Old W.heap.size) (Seq kB (addP la lb) (v19 2)) w_ := hd 2 (by kernel_rfl)
          clear hd hold
          refine ⟨_, rfl, gd rfl ?_⟩
          exact Does.is (d_str Try.underlying23 Try.underlying5 Try.underlying9 rfl d2)
        refine ls_cons ?_ ?_
        · intro v19 lo hi w_ k_ hO hd _ _ hk_ _ hR hold
          clear hd hold
          refine ⟨_, rfl, gd rfl ?_⟩
          exact Does.is (d_move (v := u1) rfl)
        refine ls_cons ?_ ?_
        · intro v19 lo hi w_ k_ hO hd _ _ hk_ _ hR hold
          clear hd hold
          refine ⟨_, rfl, gd rfl ?_⟩
          exact Does.is (d_move (v := u2) rfl)
        refine ls_cons ?_ ?_
        · intro v19 lo hi w_ k_ hO hd _ _ hk_ _ hR hold
          have e4 : v19 4 = u1 := hd 4 (by kernel_rfl)
          have e5 : v19 5 = u2 := hd 5 (by kernel_rfl)
          clear hd hold
          refine ⟨_, rfl, gd rfl ?_⟩
          refine Does.mono (R := ROw 5 eB (addP la lb) w_) ?_ (fun u w' h => ⟨(h.ps).1.less (old_old (Nat.le_trans oW.size hO.size)), (h.ps).2⟩)
          exact d_call (xl := [.tmp 39, .tmp 40]) (al := [u1, u2]) Try.func23 (by kernel_rfl) rfl (show ([(v19 4), (v19 5)] : List Value) = [u1, u2] from by rw [e4, e5]) rfl (ref3Add_ok la lb u1 u2 _ (Ps.no (h1.step hO no_any)) (Ps.no (h2.step hO no_any)) (by first | omega | (simp; done) | (simp; omega)) (by first | omega | (simp; done) | (simp; omega)))
        refine ls_cons ?_ ?_
        · intro v19 lo hi w_ k_ hO hd _ _ hk_ _ hR hold
          have d6 : Ps (Old W.heap.size) (Seq kB (addP la lb) (v19 6)) w_ := hd 6 (by kernel_rfl)
          clear hd hold
          refine ⟨_, rfl, gd rfl ?_⟩
          exact Does.is (d_str Try.underlying23 Try.underlying5 Try.underlying9 rfl d6)
        refine ls_cons ?_ ?_
        · intro v19 lo hi w_ k_ hO hd _ _ hk_ _ hR hold
          have e3 : v19 3 = (Value.string (strOf (addP la lb))) := hd 3 (by kernel_rfl)
          have e7 : v19 7 = (Value.string (strOf (addP la lb))) := hd 7 (by kernel_rfl)
          clear hd hold
          refine ⟨_, rfl, gd rfl ?_⟩
          exact Does.is (d_seql (a := (addP la lb)) (c := (addP la lb)) e3 e7 (decide_eq_true rfl))
        refine ls_cons ?_ ?_
        · intro v19 lo hi w_ k_ hO hd _ _ hk_ _ hR hold
          have e8 : v19 8 = (Value.bool true) := hd 8 (by kernel_rfl)
          clear hd hold
          refine ⟨_, rfl, gd rfl ?_⟩
          exact Does.is (d_move (v := (Value.bool true)) e8)
        refine ls_cons ?_ ?_
        · intro v19 lo hi w_ k_ hO hd _ _ hk_ _ hR hold
          have e9 : v19 9 = (Value.bool true) := hd 9 (by kernel_rfl)
          clear hd hold
          refine ⟨_, rfl, gd_on rfl rfl rfl (Nat.le_of_ble_eq_true rfl) e9 ?_⟩
          exact Does.is (d_move (v := u1) rfl)
        refine ls_cons ?_ ?_
        · intro v19 lo hi w_ k_ hO hd _ _ hk_ _ hR hold
          have e9 : v19 9 = (Value.bool true) := hd 9 (by kernel_rfl)
          clear hd hold
          refine ⟨_, rfl, gd_on rfl rfl rfl (Nat.le_of_ble_eq_true rfl) e9 ?_⟩
          exact Does.is (d_move (v := u2) rfl)
        refine ls_cons ?_ ?_
        · intro v19 lo hi w_ k_ hO hd _ _ hk_ _ hR hold
          have e10 : v19 10 = u1 := hd 10 (by kernel_rfl)
          have e11 : v19 11 = u2 := hd 11 (by kernel_rfl)
          have e9 : v19 9 = (Value.bool true) := hd 9 (by kernel_rfl)
          clear hd hold
          refine ⟨_, rfl, gd_on rfl rfl rfl (Nat.le_of_ble_eq_true rfl) e9 ?_⟩
          refine Does.mono (R := ROw 5 eB (mulP la lb) w_) ?_ (fun u w' h => ⟨(h.ps).1.less (old_old (Nat.le_trans oW.size hO.size)), (h.ps).2⟩)
          exact d_call (xl := [.tmp 45, .tmp 46]) (al := [u1, u2]) Try.func16 (by kernel_rfl) rfl (show ([(v19 10), (v19 11)] : List Value) = [u1, u2] from by rw [e10, e11]) rfl (mul_ok la lb u1 u2 _ (Ps.no (h1.step hO no_any)) (Ps.no (h2.step hO no_any)) (by first | omega | (simp; done) | (simp; omega)) (by first | omega | (simp; done) | (simp; omega)))
        refine ls_cons ?_ ?_
        · intro v19 lo hi w_ k_ hO hd _ _ hk_ _ hR hold
          have d12 : Ps (Old W.heap.size) (Seq kB (mulP la lb) (v19 12)) w_ := hd 12 (by kernel_rfl)
          have e9 : v19 9 = (Value.bool true) := hd 9 (by kernel_rfl)
          clear hd hold
          refine ⟨_, rfl, gd_on rfl rfl rfl (Nat.le_of_ble_eq_true rfl) e9 ?_⟩
          exact Does.is (d_str Try.underlying23 Try.underlying5 Try.underlying9 rfl d12)
        refine ls_cons ?_ ?_
        · intro v19 lo hi w_ k_ hO hd _ _ hk_ _ hR hold
          have e9 : v19 9 = (Value.bool true) := hd 9 (by kernel_rfl)
          clear hd hold
          refine ⟨_, rfl, gd_on rfl rfl rfl (Nat.le_of_ble_eq_true rfl) e9 ?_⟩
          exact Does.is (d_move (v := u1) rfl)
        refine ls_cons ?_ ?_
        · intro v19 lo hi w_ k_ hO hd _ _ hk_ _ hR hold
          have e9 : v19 9 = (Value.bool true) := hd 9 (by kernel_rfl)
          clear hd hold
          refine ⟨_, rfl, gd_on rfl rfl rfl (Nat.le_of_ble_eq_true rfl) e9 ?_⟩
          exact Does.is (d_move (v := u2) rfl)
        refine ls_cons ?_ ?_
        · intro v19 lo hi w_ k_ hO hd _ _ hk_ _ hR hold
          have e14 : v19 14 = u1 := hd 14 (by kernel_rfl)
          have e15 : v19 15 = u2 := hd 15 (by kernel_rfl)
          have e9 : v19 9 = (Value.bool true) := hd 9 (by kernel_rfl)
          clear hd hold
          refine ⟨_, rfl, gd_on rfl rfl rfl (Nat.le_of_ble_eq_true rfl) e9 ?_⟩
          refine Does.mono (R := ROw 5 eB (mulP la lb) w_) ?_ (fun u w' h => ⟨(h.ps).1.less (old_old (Nat.le_trans oW.size hO.size)), (h.ps).2⟩)
          exact d_call (xl := [.tmp 49, .tmp 50]) (al := [u1, u2]) Try.func24 (by kernel_rfl) rfl (show ([(v19 14), (v19 15)] : List Value) = [u1, u2] from by rw [e14, e15]) rfl (ref3Mul_ok la lb u1 u2 _ (Ps.no (h1.step hO no_any)) (Ps.no (h2.step hO no_any)) (by first | omega | (simp; done) | (simp; omega)) (by first | omega | (simp; done) | (simp; omega)))
        refine ls_cons ?_ ?_
        · intro v19 lo hi w_ k_ hO hd _ _ hk_ _ hR hold
          have d16 : Ps (Old W.heap.size) (Seq kB (mulP la lb) (v19 16)) w_ := hd 16 (by kernel_rfl)
          have e9 : v19 9 = (Value.bool true) := hd 9 (by kernel_rfl)
          clear hd hold
          refine ⟨_, rfl, gd_on rfl rfl rfl (Nat.le_of_ble_eq_true rfl) e9 ?_⟩
          exact Does.is (d_str Try.underlying23 Try.underlying5 Try.underlying9 rfl d16)
        refine ls_cons ?_ ?_
        · intro v19 lo hi w_ k_ hO hd _ _ hk_ _ hR hold
          have e13 : v19 13 = (Value.string (strOf (mulP la lb))) := hd 13 (by kernel_rfl)
          have e17 : v19 17 = (Value.string (strOf (mulP la lb))) := hd 17 (by kernel_rfl)
          have e9 : v19 9 = (Value.bool true) := hd 9 (by kernel_rfl)
          clear hd hold
          refine ⟨_, rfl, gd_on rfl rfl rfl (Nat.le_of_ble_eq_true rfl) e9 ?_⟩
          exact Does.is (d_seql (a := (mulP la lb)) (c := (mulP la lb)) e13 e17 (decide_eq_true rfl))
        refine ls_cons ?_ ?_
        · intro v19 lo hi w_ k_ hO hd _ _ hk_ _ hR hold
          have e18 : v19 18 = (Value.bool true) := hd 18 (by kernel_rfl)
          have e9 : v19 9 = (Value.bool true) := hd 9 (by kernel_rfl)
          clear hd hold
          refine ⟨_, rfl, gd rfl ?_⟩
          exact Does.is (d_pick (b := true) (v := (Value.bool true)) e9 e18)
        refine ls_cons ?_ ?_
        · intro v19 lo hi w_ k_ hO hd _ _ hk_ _ hR hold
          have e19 : v19 19 = (Value.bool true) := hd 19 (by kernel_rfl)
          clear hd hold
          refine ⟨_, rfl, gd rfl ?_⟩
          exact Does.is (d_move (v := (Value.bool true)) e19)
        refine ls_cons ?_ ?_
        · intro v19 lo hi w_ k_ hO hd _ _ hk_ _ hR hold
          have e20 : v19 20 = (Value.bool true) := hd 20 (by kernel_rfl)
          clear hd hold
          refine ⟨_, rfl, gd_on rfl rfl rfl (Nat.le_of_ble_eq_true rfl) e20 ?_⟩
          exact Does.is (d_move (v := u5) rfl)
        refine ls_cons ?_ ?_
        · intro v19 lo hi w_ k_ hO hd _ _ hk_ _ hR hold
          have e20 : v19 20 = (Value.bool true) := hd 20 (by kernel_rfl)
          have e21 : v19 21 = u5 := hd 21 (by kernel_rfl)
          clear hd hold
          refine ⟨_, rfl, gd_on rfl rfl rfl (Nat.le_of_ble_eq_true rfl) e20 ?_⟩
          exact Does.is (d_str Try.underlying23 Try.underlying5 Try.underlying9 e21 (f6.step hO no_any))
        refine ls_cons ?_ ?_
        · intro v19 lo hi w_ k_ hO hd _ _ hk_ _ hR hold
          have e20 : v19 20 = (Value.bool true) := hd 20 (by kernel_rfl)
          clear hd hold
          refine ⟨_, rfl, gd_on rfl rfl rfl (Nat.le_of_ble_eq_true rfl) e20 ?_⟩
          exact Does.is (d_move (v := u13) rfl)
        refine ls_cons ?_ ?_
        · intro v19 lo hi w_ k_ hO hd _ _ hk_ _ hR hold
          have e20 : v19 20 = (Value.bool true) := hd 20 (by kernel_rfl)
          have e23 : v19 23 = u13 := hd 23 (by kernel_rfl)
          clear hd hold
          refine ⟨_, rfl, gd_on rfl rfl rfl (Nat.le_of_ble_eq_true rfl) e20 ?_⟩
          exact Does.is (d_str Try.underlying23 Try.underlying5 Try.underlying9 e23 (f14.step hO no_any))
        refine ls_cons ?_ ?_
        · intro v19 lo hi w_ k_ hO hd _ _ hk_ _ hR hold
          have e20 : v19 20 = (Value.bool true) := hd 20 (by kernel_rfl)
          have e22 : v19 22 = (Value.string (strOf (quoP la lb))) := hd 22 (by kernel_rfl)
          have e24 : v19 24 = (Value.string (strOf (quoP la lb))) := hd 24 (by kernel_rfl)
          clear hd hold
          refine ⟨_, rfl, gd_on rfl rfl rfl (Nat.le_of_ble_eq_true rfl) e20 ?_⟩
          exact Does.is (d_seql (a := (quoP la lb)) (c := (quoP la lb)) e22 e24 (decide_eq_true rfl))
        refine ls_cons ?_ ?_
        · intro v19 lo hi w_ k_ hO hd _ _ hk_ _ hR hold
          have e20 : v19 20 = (Value.bool true) := hd 20 (by kernel_rfl)
          have e25 : v19 25 = (Value.bool true) := hd 25 (by kernel_rfl)
          clear hd hold
          refine ⟨_, rfl, gd rfl ?_⟩
          exact Does.is (d_pick (b := true) (v := (Value.bool true)) e20 e25)
        refine ls_cons ?_ ?_
        · intro v19 lo hi w_ k_ hO hd _ _ hk_ _ hR hold
          have e26 : v19 26 = (Value.bool true) := hd 26 (by kernel_rfl)
          clear hd hold
          refine ⟨_, rfl, gd rfl ?_⟩
          exact Does.is (d_move (v := (Value.bool true)) e26)
        refine ls_cons ?_ ?_
        · intro v19 lo hi w_ k_ hO hd _ _ hk_ _ hR hold
          have e27 : v19 27 = (Value.bool true) := hd 27 (by kernel_rfl)
          clear hd hold
          refine ⟨_, rfl, gd_on rfl rfl rfl (Nat.le_of_ble_eq_true rfl) e27 ?_⟩
          exact Does.is (d_move (v := u7) rfl)
        refine ls_cons ?_ ?_
        · intro v19 lo hi w_ k_ hO hd _ _ hk_ _ hR hold
          have e27 : v19 27 = (Value.bool true) := hd 27 (by kernel_rfl)
          have e28 : v19 28 = u7 := hd 28 (by kernel_rfl)
          clear hd hold
          refine ⟨_, rfl, gd_on rfl rfl rfl (Nat.le_of_ble_eq_true rfl) e27 ?_⟩
          exact Does.is (d_str Try.underlying23 Try.underlying5 Try.underlying9 e28 (f8.step hO no_any))
        refine ls_cons ?_ ?_
        · intro v19 lo hi w_ k_ hO hd _ _ hk_ _ hR hold
          have e27 : v19 27 = (Value.bool true) := hd 27 (by kernel_rfl)
          clear hd hold
          refine ⟨_, rfl, gd_on rfl rfl rfl (Nat.le_of_ble_eq_true rfl) e27 ?_⟩
          exact Does.is (d_move (v := u15) rfl)
        refine ls_cons ?_ ?_
        · intro v19 lo hi w_ k_ hO hd _ _ hk_ _ hR hold
          have e27 : v19 27 = (Value.bool true) := hd 27 (by kernel_rfl)
          have e30 : v19 30 = u15 := hd 30 (by kernel_rfl)
          clear hd hold
          refine ⟨_, rfl, gd_on rfl rfl rfl (Nat.le_of_ble_eq_true rfl) e27 ?_⟩
          exact Does.is (d_str Try.underlying23 Try.underlying5 Try.underlying9 e30 (f16.step hO no_any))
        refine ls_cons ?_ ?_
        · intro v19 lo hi w_ k_ hO hd _ _ hk_ _ hR hold
          have e27 : v19 27 = (Value.bool true) := hd 27 (by kernel_rfl)
          have e29 : v19 29 = (Value.string (strOf (remP la lb))) := hd 29 (by kernel_rfl)
          have e31 : v19 31 = (Value.string (strOf (remP la lb))) := hd 31 (by kernel_rfl)
          clear hd hold
          refine ⟨_, rfl, gd_on rfl rfl rfl (Nat.le_of_ble_eq_true rfl) e27 ?_⟩
          exact Does.is (d_seql (a := (remP la lb)) (c := (remP la lb)) e29 e31 (decide_eq_true rfl))
        refine ls_cons ?_ ?_
        · intro v19 lo hi w_ k_ hO hd _ _ hk_ _ hR hold
          have e27 : v19 27 = (Value.bool true) := hd 27 (by kernel_rfl)
          have e32 : v19 32 = (Value.bool true) := hd 32 (by kernel_rfl)
          clear hd hold
          refine ⟨_, rfl, gd rfl ?_⟩
          exact Does.is (d_pick (b := true) (v := (Value.bool true)) e27 e32)
        refine ls_cons ?_ ?_
        · intro v19 lo hi w_ k_ hO hd _ _ hk_ _ hR hold
          have e33 : v19 33 = (Value.bool true) := hd 33 (by kernel_rfl)
          clear hd hold
          refine ⟨_, rfl, gd rfl ?_⟩
          exact Does.is (d_move (v := (Value.bool true)) e33)
        refine ls_cons ?_ ?_
        · intro v19 lo hi w_ k_ hO hd _ _ hk_ _ hR hold
          have e34 : v19 34 = (Value.bool true) := hd 34 (by kernel_rfl)
          clear hd hold
          refine ⟨_, rfl, gd_on rfl rfl rfl (Nat.le_of_ble_eq_true rfl) e34 ?_⟩
          exact Does.is (d_move (v := (Value.bool (isP lb))) rfl)
        refine ls_cons ?_ ?_
        · intro v19 lo hi w_ k_ hO hd _ _ hk_ _ hR hold
          have e34 : v19 34 = (Value.bool true) := hd 34 (by kernel_rfl)
          clear hd hold
          refine ⟨_, rfl, gd_on rfl rfl rfl (Nat.le_of_ble_eq_true rfl) e34 ?_⟩
          exact Does.is (d_move (v := (Value.bool (isP lb))) rfl)
        refine ls_cons ?_ ?_
        · intro v19 lo hi w_ k_ hO hd _ _ hk_ _ hR hold
          have e34 : v19 34 = (Value.bool true) := hd 34 (by kernel_rfl)
          have e35 : v19 35 = (Value.bool (isP lb)) := hd 35 (by kernel_rfl)
          have e36 : v19 36 = (Value.bool (isP lb)) := hd 36 (by kernel_rfl)
          clear hd hold
          refine ⟨_, rfl, gd_on rfl rfl rfl (Nat.le_of_ble_eq_true rfl) e34 ?_⟩
          exact Does.is (d_beql Try.underlying4 e35 e36 (by simp))
        refine ls_cons ?_ ?_
        · intro v19 lo hi w_ k_ hO hd _ _ hk_ _ hR hold
          have e34 : v19 34 = (Value.bool true) := hd 34 (by kernel_rfl)
          have e37 : v19 37 = (Value.bool true) := hd 37 (by kernel_rfl)
          clear hd hold
          refine ⟨_, rfl, gd rfl ?_⟩
          exact Does.is (d_pick (b := true) (v := (Value.bool true)) e34 e37)
        refine ls_cons ?_ ?_
        · intro v19 lo hi w_ k_ hO hd _ _ hk_ _ hR hold
          have e38 : v19 38 = (Value.bool true) := hd 38 (by kernel_rfl)
          clear hd hold
          refine ⟨_, rfl, gd rfl ?_⟩
          exact Does.is (d_move (v := (Value.bool true)) e38)
        refine ls_cons ?_ ?_
        · intro v19 lo hi w_ k_ hO hd _ _ hk_ _ hR hold
          have e39 : v19 39 = (Value.bool true) := hd 39 (by kernel_rfl)
          clear hd hold
          refine ⟨_, rfl, gd_on rfl rfl rfl (Nat.le_of_ble_eq_true rfl) e39 ?_⟩
          exact Does.is (d_move (v := u1) rfl)
        refine ls_cons ?_ ?_
        · intro v19 lo hi w_ k_ hO hd _ _ hk_ _ hR hold
          have e39 : v19 39 = (Value.bool true) := hd 39 (by kernel_rfl)
          have e40 : v19 40 = u1 := hd 40 (by kernel_rfl)
          clear hd hold
          refine ⟨_, rfl, gd_on rfl rfl rfl (Nat.le_of_ble_eq_true rfl) e39 ?_⟩
          refine Does.mono (R := ROw 5 eB (trimL la) w_) ?_ (fun u w' h => ⟨(h.ps).1.less (old_old (Nat.le_trans oW.size hO.size)), (h.ps).2⟩)
          exact d_call (xl := [.tmp 75]) (al := [u1]) Try.func18 (by kernel_rfl) rfl (show ([(v19 40)] : List Value) = [u1] from by rw [e40]) rfl (trim_ok la u1 _ (Ps.no (h1.step hO no_any)) (by first | omega | (simp; done) | (simp; omega)))
        refine ls_cons ?_ ?_
        · intro v19 lo hi w_ k_ hO hd _ _ hk_ _ hR hold
          have e39 : v19 39 = (Value.bool true) := hd 39 (by kernel_rfl)
          have d41 : Ps (Old W.heap.size) (Seq kB (trimL la) (v19 41)) w_ := hd 41 (by kernel_rfl)
          clear hd hold
          refine ⟨_, rfl, gd_on rfl rfl rfl (Nat.le_of_ble_eq_true rfl) e39 ?_⟩
          exact Does.is (d_str Try.underlying23 Try.underlying5 Try.underlying9 rfl d41)
        refine ls_cons ?_ ?_
        · intro v19 lo hi w_ k_ hO hd _ _ hk_ _ hR hold
          have e39 : v19 39 = (Value.bool true) := hd 39 (by kernel_rfl)
          clear hd hold
          refine ⟨_, rfl, gd_on rfl rfl rfl (Nat.le_of_ble_eq_true rfl) e39 ?_⟩
          exact Does.is (d_move (v := u1) rfl)
        refine ls_cons ?_ ?_
        · intro v19 lo hi w_ k_ hO hd _ _ hk_ _ hR hold
          have e39 : v19 39 = (Value.bool true) := hd 39 (by kernel_rfl)
          have e43 : v19 43 = u1 := hd 43 (by kernel_rfl)
          clear hd hold
          refine ⟨_, rfl, gd_on rfl rfl rfl (Nat.le_of_ble_eq_true rfl) e39 ?_⟩
          refine Does.mono (R := ROw 5 eB (trimL la) w_) ?_ (fun u w' h => ⟨(h.ps).1.less (old_old (Nat.le_trans oW.size hO.size)), (h.ps).2⟩)
          exact d_call (xl := [.tmp 78]) (al := [u1]) Try.func25 (by kernel_rfl) rfl (show ([(v19 43)] : List Value) = [u1] from by rw [e43]) rfl (ref3Trim_ok la u1 _ (Ps.no (h1.step hO no_any)) (by first | omega | (simp; done) | (simp; omega)))
        refine ls_cons ?_ ?_
        · intro v19 lo hi w_ k_ hO hd _ _ hk_ _ hR hold
          have e39 : v19 39 = (Value.bool true) := hd 39 (by kernel_rfl)
          have d44 : Ps (Old W.heap.size) (Seq kB (trimL la) (v19 44)) w_ := hd 44 (by kernel_rfl)
          clear hd hold
          refine ⟨_, rfl, gd_on rfl rfl rfl (Nat.le_of_ble_eq_true rfl) e39 ?_⟩
          exact Does.is (d_str Try.underlying23 Try.underlying5 Try.underlying9 rfl d44)
        refine ls_cons ?_ ?_
        · intro v19 lo hi w_ k_ hO hd _ _ hk_ _ hR hold
          have e39 : v19 39 = (Value.bool true) := hd 39 (by kernel_rfl)
          have e42 : v19 42 = (Value.string (strOf (trimL la))) := hd 42 (by kernel_rfl)
          have e45 : v19 45 = (Value.string (strOf (trimL la))) := hd 45 (by kernel_rfl)
          clear hd hold
          refine ⟨_, rfl, gd_on rfl rfl rfl (Nat.le_of_ble_eq_true rfl) e39 ?_⟩
          exact Does.is (d_seql (a := (trimL la)) (c := (trimL la)) e42 e45 (decide_eq_true rfl))
        refine ls_cons ?_ ?_
        · intro v19 lo hi w_ k_ hO hd _ _ hk_ _ hR hold
          have e39 : v19 39 = (Value.bool true) := hd 39 (by kernel_rfl)
          have e46 : v19 46 = (Value.bool true) := hd 46 (by kernel_rfl)
          clear hd hold
          refine ⟨_, rfl, gd rfl ?_⟩
          exact Does.is (d_pick (b := true) (v := (Value.bool true)) e39 e46)
        refine ls_cons ?_ ?_
        · intro v19 lo hi w_ k_ hO hd _ _ hk_ _ hR hold
          have e47 : v19 47 = (Value.bool true) := hd 47 (by kernel_rfl)
          clear hd hold
          refine ⟨_, rfl, gd rfl ?_⟩
          exact Does.is (d_assign (v := (Value.bool true)) e47)
        exact ls_nil
      · skip
        exact ms_nil
      intro v19 lo_ hi_ w20 o21 hd iv_ hR
      have e0 : v19 0 = u1 := hd 0 (by decide)
      have e1 : v19 1 = u2 := hd 1 (by decide)
      have e3 : v19 3 = (Value.string (strOf (addP la lb))) := hd 3 (by decide)
      have e4 : v19 4 = u1 := hd 4 (by decide)
      have e5 : v19 5 = u2 := hd 5 (by decide)
      have e7 : v19 7 = (Value.string (strOf (addP la lb))) := hd 7 (by decide)
      have e8 : v19 8 = (Value.bool true) := hd 8 (by decide)
      have e9 : v19 9 = (Value.bool true) := hd 9 (by decide)
      have e10 : v19 10 = u1 := hd 10 (by decide)
      have e11 : v19 11 = u2 := hd 11 (by decide)
      have e13 : v19 13 = (Value.string (strOf (mulP la lb))) := hd 13 (by decide)
      have e14 : v19 14 = u1 := hd 14 (by decide)
      have e15 : v19 15 = u2 := hd 15 (by decide)
      have e17 : v19 17 = (Value.string (strOf (mulP la lb))) := hd 17 (by decide)
      have e18 : v19 18 = (Value.bool true) := hd 18 (by decide)
      have e19 : v19 19 = (Value.bool true) := hd 19 (by decide)
      have e20 : v19 20 = (Value.bool true) := hd 20 (by decide)
      have e21 : v19 21 = u5 := hd 21 (by decide)
      have e22 : v19 22 = (Value.string (strOf (quoP la lb))) := hd 22 (by decide)
      have e23 : v19 23 = u13 := hd 23 (by decide)
      have e24 : v19 24 = (Value.string (strOf (quoP la lb))) := hd 24 (by decide)
      have e25 : v19 25 = (Value.bool true) := hd 25 (by decide)
      have e26 : v19 26 = (Value.bool true) := hd 26 (by decide)
      have e27 : v19 27 = (Value.bool true) := hd 27 (by decide)
      have e28 : v19 28 = u7 := hd 28 (by decide)
      have e29 : v19 29 = (Value.string (strOf (remP la lb))) := hd 29 (by decide)
      have e30 : v19 30 = u15 := hd 30 (by decide)
      have e31 : v19 31 = (Value.string (strOf (remP la lb))) := hd 31 (by decide)
      have e32 : v19 32 = (Value.bool true) := hd 32 (by decide)
      have e33 : v19 33 = (Value.bool true) := hd 33 (by decide)
      have e34 : v19 34 = (Value.bool true) := hd 34 (by decide)
      have e35 : v19 35 = (Value.bool (isP lb)) := hd 35 (by decide)
      have e36 : v19 36 = (Value.bool (isP lb)) := hd 36 (by decide)
      have e37 : v19 37 = (Value.bool true) := hd 37 (by decide)
      have e38 : v19 38 = (Value.bool true) := hd 38 (by decide)
      have e39 : v19 39 = (Value.bool true) := hd 39 (by decide)
      have e40 : v19 40 = u1 := hd 40 (by decide)
      have e42 : v19 42 = (Value.string (strOf (trimL la))) := hd 42 (by decide)
      have e43 : v19 43 = u1 := hd 43 (by decide)
      have e45 : v19 45 = (Value.string (strOf (trimL la))) := hd 45 (by decide)
      have e46 : v19 46 = (Value.bool true) := hd 46 (by decide)
      have e47 : v19 47 = (Value.bool true) := hd 47 (by decide)
      have e48 : v19 48 = (Value.bool true) := hd 48 (by decide)
      have f_v19_2 : Ps (Old W.heap.size) (Seq kB (addP la lb) (v19 2)) w20 := hd 2 (by decide)
      have f_v19_6 : Ps (Old W.heap.size) (Seq kB (addP la lb) (v19 6)) w20 := hd 6 (by decide)
      have f_v19_12 : Ps (Old W.heap.size) (Seq kB (mulP la lb) (v19 12)) w20 := hd 12 (by decide)
      have f_v19_16 : Ps (Old W.heap.size) (Seq kB (mulP la lb) (v19 16)) w20 := hd 16 (by decide)
      have f_v19_41 : Ps (Old W.heap.size) (Seq kB (trimL la) (v19 41)) w20 := hd 41 (by decide)
      have f_v19_44 : Ps (Old W.heap.size) (Seq kB (trimL la) (v19 44)) w20 := hd 44 (by decide)
      clear hd iv_ lo_ hi_
      refine fr_eq (l' := [u1, u2, undef, undef, (Value.bool true), u5, u7, (Value.bool (isP lb)), u13, u15, (Value.bool (isP lb)), (Value.bool true), (Value.bool false), u1, (eN la.length), (Value.bool false), (Value.bool false), u2, (eN lb.length), (Value.bool (decide (40 < lb.length))), (Value.bool (decide (40 < lb.length))), (Value.tuple #[u5, u7, (Value.bool (isP lb))]), u1, u2, (Value.tuple #[u5, u7, (Value.bool (isP lb))]), u5, u7, (Value.bool (isP lb)), (Value.tuple #[u13, u15, (Value.bool (isP lb))]), u1, u2, (Value.tuple #[u13, u15, (Value.bool (isP lb))]), u13, u15, (Value.bool (isP lb)), u1, u2, (v19 2), (Value.string (strOf (addP la lb))), u1, u2, (v19 6), (Value.string (strOf (addP la lb))), (Value.bool true), (Value.bool true), u1, u2, (v19 12), (Value.string (strOf (mulP la lb))), u1, u2, (v19 16), (Value.string (strOf (mulP la lb))), (Value.bool true), (Value.bool true), (Value.bool true), u5, (Value.string (strOf (quoP la lb))), u13, (Value.string (strOf (quoP la lb))), (Value.bool true), (Value.bool true), (Value.bool true), u7, (Value.string (strOf (remP la lb))), u15, (Value.string (strOf (remP la lb))), (Value.bool true), (Value.bool true), (Value.bool true), (Value.bool (isP lb)), (Value.bool (isP lb)), (Value.bool true), (Value.bool true), (Value.bool true), u1, (v19 41), (Value.string (strOf (trimL la))), u1, (v19 44), (Value.string (strOf (trimL la))), (Value.bool true), (Value.bool true)]) (by rw [e0, e1, e3, e4, e5, e7, e8, e9, e10, e11, e13, e14, e15, e17, e18, e19, e20, e21, e22, e23, e24, e25, e26, e27, e28, e29, e30, e31, e32, e33, e34, e35, e36, e37, e38, e39, e40, e42, e43, e45, e46, e47, e48]) ?_
      clear e0 e1 e3 e4 e5 e7 e8 e9 e10 e11 e13 e14 e15 e17 e18 e19 e20 e21 e22 e23 e24 e25 e26 e27 e28 e29 e30 e31 e32 e33 e34 e35 e36 e37 e38 e39 e40 e42 e43 e45 e46 e47 e48
      replace h1 := h1.step o21 no_any
      replace h2 := h2.step o21 no_any
      replace f6 := f6.step o21 no_any
      replace f8 := f8.step o21 no_any
      replace f14 := f14.step o21 no_any
      replace f16 := f16.step o21 no_any
      clear hR
      replace oW := oW.tail o21 tl_no
      refine then_n ?_
      refine wpIn_ret ?_
      refine leave0 (v := (Value.bool true)) (res1 Try.results8 rfl) ?_
      exact ⟨rfl, oW⟩

set_option maxRecDepth 20000 in
set_option maxHeartbeats 1000000 in
theorem polyDivides_ok (la lb : List UInt8) (u1 u2 : Value) (W : World) (h1 : Ps No (Seq kB la u1) W) (h2 : Ps No (Seq kB lb u2) W) :
    CW Try.prog 9 #[u1, u2] W (Rt (RIs (.bool true) W)) := by
  have oW : Only No W W := Only.refl _ _
  refine enter (al := [u1, u2]) (k := 89) (l := [u1, u2, undef, undef, undef, undef, undef, undef, undef, undef, undef, undef, undef, undef, undef, undef, undef, undef, undef, undef, undef, undef, undef, undef, undef, undef, undef, undef, undef, undef, undef, undef, undef, undef, undef, undef, undef, undef, undef, undef, undef, undef, undef, undef, undef, undef, undef, undef, undef, undef, undef, undef, undef, undef, undef, undef, undef, undef, undef, undef, undef, undef, undef, undef, undef, undef, undef, undef, undef, undef, undef, undef, undef, undef, undef, undef, undef, undef, undef, undef, undef, undef, undef, undef, undef, undef, undef, undef, undef, undef, undef]) Try.func9 rfl Try.ntmps9 rfl rfl ?_
  refine wpIn_seq ?_
  refine plain ?_
  refine wpL.is (v := (Value.bool false)) rfl (d_assign (v := (Value.bool false)) rfl) ?_
  refine wpL.flat [u1, u2, undef, undef, (Value.bool false), undef, undef, undef, undef, undef, undef, undef, undef, undef, undef, undef, undef, undef, undef, undef, undef, undef, undef, undef, undef, undef, undef, undef, undef, undef, undef, undef, undef, undef, undef, undef, undef, undef, undef, undef, undef, undef, undef, undef, undef, undef, undef, undef, undef, undef, undef, undef, undef, undef, undef, undef, undef, undef, undef, undef, undef, undef, undef, undef, undef, undef, undef, undef, undef, undef, undef, undef, undef, undef, undef, undef, undef, undef, undef, undef, undef, undef, undef, undef, undef, undef, undef, undef, undef, undef, undef] (by kernel_rfl) ?_
  refine wpL.done ?_
  refine then_n ?_
  refine wpIn_seq ?_
  refine wpIn_seq ?_
  refine plain ?_
  refine wpL.op rfl (d_call (xl := []) (al := []) Try.func10 (by kernel_rfl) rfl rfl rfl (known_ok _)) ?_
  rintro _ w1 ⟨rfl, o2⟩
  replace h1 := h1.step0 o2
  replace h2 := h2.step0 o2
  replace oW := oW.tail0 o2
  refine wpL.is (v := (Value.bool false)) rfl (d_not rfl rfl) ?_
  refine wpL.flat [u1, u2, undef, undef, (Value.bool false), undef, undef, undef, undef, undef, undef, undef, (Value.bool true), (Value.bool false), undef, undef, undef, undef, undef, undef, undef, undef, undef, undef, undef, undef, undef, undef, undef, undef, undef, undef, undef, undef, undef, undef, undef, undef, undef, undef, undef, undef, undef, undef, undef, undef, undef, undef, undef, undef, undef, undef, undef, undef, undef, undef, undef, undef, undef, undef, undef, undef, undef, undef, undef, undef, undef, undef, undef, undef, undef, undef, undef, undef, undef, undef, undef, undef, undef, undef, undef, undef, undef, undef, undef, undef, undef, undef, undef, undef, undef] (by kernel_rfl) ?_
  refine wpL.done ?_
  refine then_n ?_
  refine cond_f rfl ?_
  refine wpIn_skip ?_
  refine then_n ?_
  refine wpIn_seq ?_
  refine wpIn_seq ?_
  by_cases k1 : 40 < la.length
  · skip
    refine plain ?_
    refine wpL.is (v := u1) rfl (d_move (v := u1) rfl) ?_
    refine wpL.is (v := (eN la.length)) rfl (d_lenS rfl Try.underlying23 rfl h1) ?_
    refine wpL.is (v := (Value.bool true)) rfl (n_gtr (a := la.length) (b := 40) rfl rfl (decide_eq_true k1)) ?_
    refine wpL.flat [u1, u2, undef, undef, (Value.bool false), undef, undef, undef, undef, undef, undef, undef, (Value.bool true), (Value.bool false), u1, (eN la.length), (Value.bool true), undef, undef, undef, undef, undef, undef, undef, undef, undef, undef, undef, undef, undef, undef, undef, undef, undef, undef, undef, undef, undef, undef, undef, undef, undef, undef, undef, undef, undef, undef, undef, undef, undef, undef, undef, undef, undef, undef, undef, undef, undef, undef, undef, undef, undef, undef, undef, undef, undef, undef, undef, undef, undef, undef, undef, undef, undef, undef, undef, undef, undef, undef, undef, undef, undef, undef, undef, undef, undef, undef, undef, undef, undef, undef] (by kernel_rfl) ?_
    refine wpL.is (v := (Value.bool true)) rfl (d_move (v := (Value.bool true)) rfl) ?_
    refine wpL.off rfl rfl rfl (Nat.le_of_ble_eq_true rfl) rfl ?_
    refine wpL.flat [u1, u2, undef, undef, (Value.bool false), undef, undef, undef, undef, undef, undef, undef, (Value.bool true), (Value.bool false), u1, (eN la.length), (Value.bool true), (Value.bool true), undef, undef, undef, undef, undef, undef, undef, undef, undef, undef, undef, undef, undef, undef, undef, undef, undef, undef, undef, undef, undef, undef, undef, undef, undef, undef, undef, undef, undef, undef, undef, undef, undef, undef, undef, undef, undef, undef, undef, undef, undef, undef, undef, undef, undef, undef, undef, undef, undef, undef, undef, undef, undef, undef, undef, undef, undef, undef, undef, undef, undef, undef, undef, undef, undef, undef, undef, undef, undef, undef, undef, undef, undef] (by kernel_rfl) ?_
    refine wpL.off rfl rfl rfl (Nat.le_of_ble_eq_true rfl) rfl ?_
    refine wpL.off rfl rfl rfl (Nat.le_of_ble_eq_true rfl) rfl ?_
    refine wpL.is (v := (Value.bool true)) rfl (d_pick (b := true) (v := (Value.bool true)) rfl rfl) ?_
    refine wpL.flat [u1, u2, undef, undef, (Value.bool false), undef, undef, undef, undef, undef, undef, undef, (Value.bool true), (Value.bool false), u1, (eN la.length), (Value.bool true), (Value.bool true), undef, undef, undef, (Value.bool true), undef, undef, undef, undef, undef, undef, undef, undef, undef, undef, undef, undef, undef, undef, undef, undef, undef, undef, undef, undef, undef, undef, undef, undef, undef, undef, undef, undef, undef, undef, undef, undef, undef, undef, undef, undef, undef, undef, undef, undef, undef, undef, undef, undef, undef, undef, undef, undef, undef, undef, undef, undef, undef, undef, undef, undef, undef, undef, undef, undef, undef, undef, undef, undef, undef, undef, undef, undef, undef] (by kernel_rfl) ?_
    refine wpL.done ?_
    refine then_n ?_
    refine cond_t rfl ?_
    refine wpIn_seq ?_
    refine plain ?_
    refine wpL.is (v := (Value.bool true)) rfl (d_assign (v := (Value.bool true)) rfl) ?_
    refine wpL.flat [u1, u2, undef, undef, (Value.bool true), undef, undef, undef, undef, undef, undef, undef, (Value.bool true), (Value.bool false), u1, (eN la.length), (Value.bool true), (Value.bool true), undef, undef, undef, (Value.bool true), undef, undef, undef, undef, undef, undef, undef, undef, undef, undef, undef, undef, undef, undef, undef, undef, undef, undef, undef, undef, undef, undef, undef, undef, undef, undef, undef, undef, undef, undef, undef, undef, undef, undef, undef, undef, undef, undef, undef, undef, undef, undef, undef, undef, undef, undef, undef, undef, undef, undef, undef, undef, undef, undef, undef, undef, undef, undef, undef, undef, undef, undef, undef, undef, undef, undef, undef, undef, undef] (by kernel_rfl) ?_
    refine wpL.done ?_
    refine then_n ?_
    refine wpIn_ret ?_
    refine then_r ?_
    refine leave0 (v := (Value.bool true)) (res1 Try.results9 rfl) ?_
    exact ⟨rfl, oW⟩
  · skip
    refine plain ?_
    refine wpL.is (v := u1) rfl (d_move (v := u1) rfl) ?_
    refine wpL.is (v := (eN la.length)) rfl (d_lenS rfl Try.underlying23 rfl h1) ?_
    refine wpL.is (v := (Value.bool false)) rfl (n_gtr (a := la.length) (b := 40) rfl rfl (decide_eq_false k1)) ?_
    refine wpL.flat [u1, u2, undef, undef, (Value.bool false), undef, undef, undef, undef, undef, undef, undef, (Value.bool true), (Value.bool false), u1, (eN la.length), (Value.bool false), undef, undef, undef, undef, undef, undef, undef, undef, undef, undef, undef, undef, undef, undef, undef, undef, undef, undef, undef, undef, undef, undef, undef, undef, undef, undef, undef, undef, undef, undef, undef, undef, undef, undef, undef, undef, undef, undef, undef, undef, undef, undef, undef, undef, undef, undef, undef, undef, undef, undef, undef, undef, undef, undef, undef, undef, undef, undef, undef, undef, undef, undef, undef, undef, undef, undef, undef, undef, undef, undef, undef, undef, undef, undef] (by kernel_rfl) ?_
    refine wpL.is (v := (Value.bool false)) rfl (d_move (v := (Value.bool false)) rfl) ?_
    refine wpL.onis (v := u2) rfl rfl rfl (Nat.le_of_ble_eq_true rfl) rfl (d_move (v := u2) rfl) ?_
    refine wpL.onis (v := (eN lb.length)) rfl rfl rfl (Nat.le_of_ble_eq_true rfl) rfl (d_lenS rfl Try.underlying23 rfl h2) ?_
    refine wpL.flat [u1, u2, undef, undef, (Value.bool false), undef, undef, undef, undef, undef, undef, undef, (Value.bool true), (Value.bool false), u1, (eN la.length), (Value.bool false), (Value.bool false), u2, (eN lb.length), undef, undef, undef, undef, undef, undef, undef, undef, undef, undef, undef, undef, undef, undef, undef, undef, undef, undef, undef, undef, undef, undef, undef, undef, undef, undef, undef, undef, undef, undef, undef, undef, undef, undef, undef, undef, undef, undef, undef, undef, undef, undef, undef, undef, undef, undef, undef, undef, undef, undef, undef, undef, undef, undef, undef, undef, undef, undef, undef, undef, undef, undef, undef, undef, undef, undef, undef, undef, undef, undef, undef] (by kernel_rfl) ?_
    refine wpL.onis (v := (Value.bool (decide (40 < lb.length)))) rfl rfl rfl (Nat.le_of_ble_eq_true rfl) rfl (n_gtr (a := lb.length) (b := 40) rfl rfl rfl) ?_
    refine wpL.is (v := (Value.bool (decide (40 < lb.length)))) rfl (d_pick (b := false) (v := (Value.bool (decide (40 < lb.length)))) rfl rfl) ?_
    refine wpL.flat [u1, u2, undef, undef, (Value.bool false), undef, undef, undef, undef, undef, undef, undef, (Value.bool true), (Value.bool false), u1, (eN la.length), (Value.bool false), (Value.bool false), u2, (eN lb.length), (Value.bool (decide (40 < lb.length))), (Value.bool (decide (40 < lb.length))), undef, undef, undef, undef, undef, undef, undef, undef, undef, undef, undef, undef, undef, undef, undef, undef, undef, undef, undef, undef, undef, undef, undef, undef, undef, undef, undef, undef, undef, undef, undef, undef, undef, undef, undef, undef, undef, undef, undef, undef, undef, undef, undef, undef, undef, undef, undef, undef, undef, undef, undef, undef, undef, undef, undef, undef, undef, undef, undef, undef, undef, undef, undef, undef, undef, undef, undef, undef, undef] (by kernel_rfl) ?_
    refine wpL.done ?_
    refine then_n ?_
    refine cond_if rfl (fun k2 => ?_) (fun k2 => ?_)
    · skip
      refine wpIn_seq ?_
      refine plain ?_
      refine wpL.is (v := (Value.bool true)) rfl (d_assign (v := (Value.bool true)) rfl) ?_
      refine wpL.flat [u1, u2, undef, undef, (Value.bool true), undef, undef, undef, undef, undef, undef, undef, (Value.bool true), (Value.bool false), u1, (eN la.length), (Value.bool false), (Value.bool false), u2, (eN lb.length), (Value.bool (decide (40 < lb.length))), (Value.bool (decide (40 < lb.length))), undef, undef, undef, undef, undef, undef, undef, undef, undef, undef, undef, undef, undef, undef, undef, undef, undef, undef, undef, undef, undef, undef, undef, undef, undef, undef, undef, undef, undef, undef, undef, undef, undef, undef, undef, undef, undef, undef, undef, undef, undef, undef, undef, undef, undef, undef, undef, undef, undef, undef, undef, undef, undef, undef, undef, undef, undef, undef, undef, undef, undef, undef, undef, undef, undef, undef, undef, undef, undef] (by kernel_rfl) ?_
      refine wpL.done ?_
      refine then_n ?_
      refine wpIn_ret ?_
      refine then_r ?_
      refine leave0 (v := (Value.bool true)) (res1 Try.results9 rfl) ?_
      exact ⟨rfl, oW⟩
    · skip
      refine wpIn_skip ?_
      refine then_n ?_
      refine wpIn_seq ?_
      refine plain ?_
      refine wpL.is (v := u2) rfl (d_move (v := u2) rfl) ?_
      refine wpL.op rfl (d_call (xl := [.tmp 22]) (al := [u2]) Try.func18 (by kernel_rfl) rfl rfl rfl (trim_ok lb u2 _ (Ps.no h2) (by first | omega | (simp; done) | (simp; omega)))) ?_
      rintro u5 w3 f6
      replace f6 := f6.ps
      obtain ⟨f6, o4⟩ := f6
      replace f6 := f6.less (Y := (Old W.heap.size)) (old_old oW.size)
      replace h1 := h1.step0 o4
      replace h2 := h2.step0 o4
      replace oW := oW.tail0 o4
      refine wpL.is (v := u5) rfl (d_assign (v := u5) rfl) ?_
      refine wpL.flat [u1, u2, undef, undef, (Value.bool false), u5, undef, undef, undef, undef, undef, undef, (Value.bool true), (Value.bool false), u1, (eN la.length), (Value.bool false), (Value.bool false), u2, (eN lb.length), (Value.bool (decide (40 < lb.length))), (Value.bool (decide (40 < lb.length))), u2, u5, undef, undef, undef, undef, undef, undef, undef, undef, undef, undef, undef, undef, undef, undef, undef, undef, undef, undef, undef, undef, undef, undef, undef, undef, undef, undef, undef, undef, undef, undef, undef, undef, undef, undef, undef, undef, undef, undef, undef, undef, undef, undef, undef, undef, undef, undef, undef, undef, undef, undef, undef, undef, undef, undef, undef, undef, undef, undef, undef, undef, undef, undef, undef, undef, undef, undef, undef] (by kernel_rfl) ?_
      refine wpL.done ?_
      refine then_n ?_
      refine wpIn_seq ?_
      refine plain ?_
      refine wpL.is (v := u1) rfl (d_move (v := u1) rfl) ?_
      refine wpL.is (v := u2) rfl (d_move (v := u2) rfl) ?_
      refine wpL.op rfl (d_call (xl := [.tmp 25, .tmp 26]) (al := [u1, u2]) Try.func21 (by kernel_rfl) rfl rfl rfl (div_ok la lb u1 u2 _ (Ps.no h1) (Ps.no h2) (by first | omega | (simp; done) | (simp; omega)) (by first | omega | (simp; done) | (simp; omega)))) ?_
      rintro _ w7 ⟨u9, u11, rfl, f10, f12, o8⟩
      replace f10 := f10.less (Y := (Old W.heap.size)) (old_old oW.size)
      replace f12 := f12.less (Y := (Old W.heap.size)) (old_old oW.size)
      replace h1 := h1.step0 o8
      replace h2 := h2.step0 o8
      replace f6 := f6.step0 o8
      replace oW := oW.tail0 o8
      refine wpL.flat [u1, u2, undef, undef, (Value.bool false), u5, undef, undef, undef, undef, undef, undef, (Value.bool true), (Value.bool false), u1, (eN la.length), (Value.bool false), (Value.bool false), u2, (eN lb.length), (Value.bool (decide (40 < lb.length))), (Value.bool (decide (40 < lb.length))), u2, u5, undef, u1, u2, (Value.tuple #[u9, u11, (Value.bool (isP lb))]), undef, undef, undef, undef, undef, undef, undef, undef, undef, undef, undef, undef, undef, undef, undef, undef, undef, undef, undef, undef, undef, undef, undef, undef, undef, undef, undef, undef, undef, undef, undef, undef, undef, undef, undef, undef, undef, undef, undef, undef, undef, undef, undef, undef, undef, undef, undef, undef, undef, undef, undef, undef, undef, undef, undef, undef, undef, undef, undef, undef, undef, undef, undef] (by kernel_rfl) ?_
      refine wpL.is (v := (Value.tuple #[u9, u11, (Value.bool (isP lb))])) rfl (d_move (v := (Value.tuple #[u9, u11, (Value.bool (isP lb))])) rfl) ?_
      refine wpL.is (v := u9) rfl (d_extract (v := u9) rfl rfl) ?_
      refine wpL.is (v := u11) rfl (d_extract (v := u11) rfl rfl) ?_
      refine wpL.flat [u1, u2, undef, undef, (Value.bool false), u5, undef, undef, undef, undef, undef, undef, (Value.bool true), (Value.bool false), u1, (eN la.length), (Value.bool false), (Value.bool false), u2, (eN lb.length), (Value.bool (decide (40 < lb.length))), (Value.bool (decide (40 < lb.length))), u2, u5, (Value.tuple #[u9, u11, (Value.bool (isP lb))]), u1, u2, (Value.tuple #[u9, u11, (Value.bool (isP lb))]), u9, u11, undef, undef, undef, undef, undef, undef, undef, undef, undef, undef, undef, undef, undef, undef, undef, undef, undef, undef, undef, undef, undef, undef, undef, undef, undef, undef, undef, undef, undef, undef, undef, undef, undef, undef, undef, undef, undef, undef, undef, undef, undef, undef, undef, undef, undef, undef, undef, undef, undef, undef, undef, undef, undef, undef, undef, undef, undef, undef, undef, undef, undef] (by kernel_rfl) ?_
      refine wpL.is (v := (Value.bool (isP lb))) rfl (d_extract (v := (Value.bool (isP lb))) rfl rfl) ?_
      refine wpL.is (v := u9) rfl (d_assign (v := u9) rfl) ?_
      refine wpL.is (v := u11) rfl (d_assign (v := u11) rfl) ?_
      refine wpL.flat [u1, u2, undef, undef, (Value.bool false), u5, u9, u11, undef, undef, undef, undef, (Value.bool true), (Value.bool false), u1, (eN la.length), (Value.bool false), (Value.bool false), u2, (eN lb.length), (Value.bool (decide (40 < lb.length))), (Value.bool (decide (40 < lb.length))), u2, u5, (Value.tuple #[u9, u11, (Value.bool (isP lb))]), u1, u2, (Value.tuple #[u9, u11, (Value.bool (isP lb))]), u9, u11, (Value.bool (isP lb)), undef, undef, undef, undef, undef, undef, undef, undef, undef, undef, undef, undef, undef, undef, undef, undef, undef, undef, undef, undef, undef, undef, undef, undef, undef, undef, undef, undef, undef, undef, undef, undef, undef, undef, undef, undef, undef, undef, undef, undef, undef, undef, undef, undef, undef, undef, undef, undef, undef, undef, undef, undef, undef, undef, undef, undef, undef, undef, undef, undef] (by kernel_rfl) ?_
      refine wpL.is (v := (Value.bool (isP lb))) rfl (d_assign (v := (Value.bool (isP lb))) rfl) ?_
      refine wpL.flat [u1, u2, undef, undef, (Value.bool false), u5, u9, u11, (Value.bool (isP lb)), undef, undef, undef, (Value.bool true), (Value.bool false), u1, (eN la.length), (Value.bool false), (Value.bool false), u2, (eN lb.length), (Value.bool (decide (40 < lb.length))), (Value.bool (decide (40 < lb.length))), u2, u5, (Value.tuple #[u9, u11, (Value.bool (isP lb))]), u1, u2, (Value.tuple #[u9, u11, (Value.bool (isP lb))]), u9, u11, (Value.bool (isP lb)), undef, undef, undef, undef, undef, undef, undef, undef, undef, undef, undef, undef, undef, undef, undef, undef, undef, undef, undef, undef, undef, undef, undef, undef, undef, undef, undef, undef, undef, undef, undef, undef, undef, undef, undef, undef, undef, undef, undef, undef, undef, undef, undef, undef, undef, undef, undef, undef, undef, undef, undef, undef, undef, undef, undef, undef, undef, undef, undef, undef] (by kernel_rfl) ?_
      refine wpL.done ?_
      refine then_n ?_
      refine wpIn_seq ?_
      refine wpIn_seq ?_
      refine plain ?_
      refine wpL.is (v := u5) rfl (d_move (v := u5) rfl) ?_
      refine wpL.is (v := (eN ((trimL lb).length))) rfl (d_lenS rfl Try.underlying23 rfl f6) ?_
      refine wpL.is (v := (Value.bool (decide (((trimL lb).length) = 0)))) rfl (n_eql (a := ((trimL lb).length)) (b := 0) rfl rfl rfl) ?_
      refine wpL.flat [u1, u2, undef, undef, (Value.bool false), u5, u9, u11, (Value.bool (isP lb)), undef, undef, undef, (Value.bool true), (Value.bool false), u1, (eN la.length), (Value.bool false), (Value.bool false), u2, (eN lb.length), (Value.bool (decide (40 < lb.length))), (Value.bool (decide (40 < lb.length))), u2, u5, (Value.tuple #[u9, u11, (Value.bool (isP lb))]), u1, u2, (Value.tuple #[u9, u11, (Value.bool (isP lb))]), u9, u11, (Value.bool (isP lb)), u5, (eN ((trimL lb).length)), (Value.bool (decide (((trimL lb).length) = 0))), undef, undef, undef, undef, undef, undef, undef, undef, undef, undef, undef, undef, undef, undef, undef, undef, undef, undef, undef, undef, undef, undef, undef, undef, undef, undef, undef, undef, undef, undef, undef, undef, undef, undef, undef, undef, undef, undef, undef, undef, undef, undef, undef, undef, undef, undef, undef, undef, undef, undef, undef, undef, undef, undef, undef, undef, undef] (by kernel_rfl) ?_
      refine wpL.done ?_
      refine then_n ?_
      refine cond_if rfl (fun k3 => ?_) (fun k3 => ?_)
      · skip
        have e0_ := List.eq_nil_of_length_eq_zero k3
        refine wp_eq (l' := [u1, u2, undef, undef, (Value.bool false), u5, u9, u11, (Value.bool false), undef, undef, undef, (Value.bool true), (Value.bool false), u1, (eN la.length), (Value.bool false), (Value.bool false), u2, (eN lb.length), (Value.bool (decide (40 < lb.length))), (Value.bool (decide (40 < lb.length))), u2, u5, (Value.tuple #[u9, u11, (Value.bool (isP lb))]), u1, u2, (Value.tuple #[u9, u11, (Value.bool (isP lb))]), u9, u11, (Value.bool (isP lb)), u5, (eN ((trimL lb).length)), (Value.bool (decide (((trimL lb).length) = 0))), undef, undef, undef, undef, undef, undef, undef, undef, undef, undef, undef, undef, undef, undef, undef, undef, undef, undef, undef, undef, undef, undef, undef, undef, undef, undef, undef, undef, undef, undef, undef, undef, undef, undef, undef, undef, undef, undef, undef, undef, undef, undef, undef, undef, undef, undef, undef, undef, undef, undef, undef, undef, undef, undef, undef, undef, undef]) (show ([u1, u2, undef, undef, (Value.bool false), u5, u9, u11, (Value.bool (isP lb)), undef, undef, undef, (Value.bool true), (Value.bool false), u1, (eN la.length), (Value.bool false), (Value.bool false), u2, (eN lb.length), (Value.bool (decide (40 < lb.length))), (Value.bool (decide (40 < lb.length))), u2, u5, (Value.tuple #[u9, u11, (Value.bool (isP lb))]), u1, u2, (Value.tuple #[u9, u11, (Value.bool (isP lb))]), u9, u11, (Value.bool (isP lb)), u5, (eN ((trimL lb).length)), (Value.bool (decide (((trimL lb).length) = 0))), undef, undef, undef, undef, undef, undef, undef, undef, undef, undef, undef, undef, undef, undef, undef, undef, undef, undef, undef, undef, undef, undef, undef, undef, undef, undef, undef, undef, undef, undef, undef, undef, undef, undef, undef, undef, undef, undef, undef, undef, undef, undef, undef, undef, undef, undef, undef, undef, undef, undef, undef, undef, undef, undef, undef, undef, undef] : List Value) = [u1, u2, undef, undef, (Value.bool false), u5, u9, u11, (Value.bool false), undef, undef, undef, (Value.bool true), (Value.bool false), u1, (eN la.length), (Value.bool false), (Value.bool false), u2, (eN lb.length), (Value.bool (decide (40 < lb.length))), (Value.bool (decide (40 < lb.length))), u2, u5, (Value.tuple #[u9, u11, (Value.bool (isP lb))]), u1, u2, (Value.tuple #[u9, u11, (Value.bool (isP lb))]), u9, u11, (Value.bool (isP lb)), u5, (eN ((trimL lb).length)), (Value.bool (decide (((trimL lb).length) = 0))), undef, undef, undef, undef, undef, undef, undef, undef, undef, undef, undef, undef, undef, undef, undef, undef, undef, undef, undef, undef, undef, undef, undef, undef, undef, undef, undef, undef, undef, undef, undef, undef, undef, undef, undef, undef, undef, undef, undef, undef, undef, undef, undef, undef, undef, undef, undef, undef, undef, undef, undef, undef, undef, undef, undef, undef, undef] from reslot [u1, u2, undef, undef, (Value.bool false), u5, u9, u11, (Value.bool (isP lb)), undef, undef, undef, (Value.bool true), (Value.bool false), u1, (eN la.length), (Value.bool false), (Value.bool false), u2, (eN lb.length), (Value.bool (decide (40 < lb.length))), (Value.bool (decide (40 < lb.length))), u2, u5, (Value.tuple #[u9, u11, (Value.bool (isP lb))]), u1, u2, (Value.tuple #[u9, u11, (Value.bool (isP lb))]), u9, u11, (Value.bool (isP lb)), u5, (eN ((trimL lb).length)), (Value.bool (decide (((trimL lb).length) = 0))), undef, undef, undef, undef, undef, undef, undef, undef, undef, undef, undef, undef, undef, undef, undef, undef, undef, undef, undef, undef, undef, undef, undef, undef, undef, undef, undef, undef, undef, undef, undef, undef, undef, undef, undef, undef, undef, undef, undef, undef, undef, undef, undef, undef, undef, undef, undef, undef, undef, undef, undef, undef, undef, undef, undef, undef, undef] 8 (by rw [isP_no e0_])) ?_
        refine wpIn_seq ?_
        refine plain ?_
        refine wpL.is (v := (Value.bool false)) rfl (d_move (v := (Value.bool false)) rfl) ?_
        refine wpL.is (v := (Value.bool true)) rfl (d_not rfl rfl) ?_
        refine wpL.is (v := (Value.bool true)) rfl (d_move (v := (Value.bool true)) rfl) ?_
        refine wpL.flat [u1, u2, undef, undef, (Value.bool false), u5, u9, u11, (Value.bool false), undef, undef, undef, (Value.bool true), (Value.bool false), u1, (eN la.length), (Value.bool false), (Value.bool false), u2, (eN lb.length), (Value.bool (decide (40 < lb.length))), (Value.bool (decide (40 < lb.length))), u2, u5, (Value.tuple #[u9, u11, (Value.bool (isP lb))]), u1, u2, (Value.tuple #[u9, u11, (Value.bool (isP lb))]), u9, u11, (Value.bool (isP lb)), u5, (eN ((trimL lb).length)), (Value.bool (decide (((trimL lb).length) = 0))), (Value.bool false), (Value.bool true), (Value.bool true), undef, undef, undef, undef, undef, undef, undef, undef, undef, undef, undef, undef, undef, undef, undef, undef, undef, undef, undef, undef, undef, undef, undef, undef, undef, undef, undef, undef, undef, undef, undef, undef, undef, undef, undef, undef, undef, undef, undef, undef, undef, undef, undef, undef, undef, undef, undef, undef, undef, undef, undef, undef, undef, undef] (by kernel_rfl) ?_
        refine wpL.onis (v := u9) rfl rfl rfl (Nat.le_of_ble_eq_true rfl) rfl (d_move (v := u9) rfl) ?_
        refine wpL.onis (v := (eN ((quoP la lb).length))) rfl rfl rfl (Nat.le_of_ble_eq_true rfl) rfl (d_lenS rfl Try.underlying23 rfl f10) ?_
        refine wpL.onis (v := (Value.bool true)) rfl rfl rfl (Nat.le_of_ble_eq_true rfl) rfl (n_eql (a := ((quoP la lb).length)) (b := 0) rfl rfl (decide_eq_true (by rw [(div_no e0_).1]; rfl))) ?_
        refine wpL.flat [u1, u2, undef, undef, (Value.bool false), u5, u9, u11, (Value.bool false), undef, undef, undef, (Value.bool true), (Value.bool false), u1, (eN la.length), (Value.bool false), (Value.bool false), u2, (eN lb.length), (Value.bool (decide (40 < lb.length))), (Value.bool (decide (40 < lb.length))), u2, u5, (Value.tuple #[u9, u11, (Value.bool (isP lb))]), u1, u2, (Value.tuple #[u9, u11, (Value.bool (isP lb))]), u9, u11, (Value.bool (isP lb)), u5, (eN ((trimL lb).length)), (Value.bool (decide (((trimL lb).length) = 0))), (Value.bool false), (Value.bool true), (Value.bool true), u9, (eN ((quoP la lb).length)), (Value.bool true), undef, undef, undef, undef, undef, undef, undef, undef, undef, undef, undef, undef, undef, undef, undef, undef, undef, undef, undef, undef, undef, undef, undef, undef, undef, undef, undef, undef, undef, undef, undef, undef, undef, undef, undef, undef, undef, undef, undef, undef, undef, undef, undef, undef, undef, undef, undef, undef, undef, undef, undef] (by kernel_rfl) ?_
        refine wpL.is (v := (Value.bool true)) rfl (d_pick (b := true) (v := (Value.bool true)) rfl rfl) ?_
        refine wpL.is (v := (Value.bool true)) rfl (d_move (v := (Value.bool true)) rfl) ?_
        refine wpL.onis (v := u11) rfl rfl rfl (Nat.le_of_ble_eq_true rfl) rfl (d_move (v := u11) rfl) ?_
        refine wpL.flat [u1, u2, undef, undef, (Value.bool false), u5, u9, u11, (Value.bool false), undef, undef, undef, (Value.bool true), (Value.bool false), u1, (eN la.length), (Value.bool false), (Value.bool false), u2, (eN lb.length), (Value.bool (decide (40 < lb.length))), (Value.bool (decide (40 < lb.length))), u2, u5, (Value.tuple #[u9, u11, (Value.bool (isP lb))]), u1, u2, (Value.tuple #[u9, u11, (Value.bool (isP lb))]), u9, u11, (Value.bool (isP lb)), u5, (eN ((trimL lb).length)), (Value.bool (decide (((trimL lb).length) = 0))), (Value.bool false), (Value.bool true), (Value.bool true), u9, (eN ((quoP la lb).length)), (Value.bool true), (Value.bool true), (Value.bool true), u11, undef, undef, undef, undef, undef, undef, undef, undef, undef, undef, undef, undef, undef, undef, undef, undef, undef, undef, undef, undef, undef, undef, undef, undef, undef, undef, undef, undef, undef, undef, undef, undef, undef, undef, undef, undef, undef, undef, undef, undef, undef, undef, undef, undef, undef, undef, undef, undef] (by kernel_rfl) ?_
        refine wpL.onis (v := (eN ((remP la lb).length))) rfl rfl rfl (Nat.le_of_ble_eq_true rfl) rfl (d_lenS rfl Try.underlying23 rfl f12) ?_
        refine wpL.onis (v := (Value.bool true)) rfl rfl rfl (Nat.le_of_ble_eq_true rfl) rfl (n_eql (a := ((remP la lb).length)) (b := 0) rfl rfl (decide_eq_true (by rw [(div_no e0_).2]; rfl))) ?_
        refine wpL.is (v := (Value.bool true)) rfl (d_pick (b := true) (v := (Value.bool true)) rfl rfl) ?_
        refine wpL.flat [u1, u2, undef, undef, (Value.bool false), u5, u9, u11, (Value.bool false), undef, undef, undef, (Value.bool true), (Value.bool false), u1, (eN la.length), (Value.bool false), (Value.bool false), u2, (eN lb.length), (Value.bool (decide (40 < lb.length))), (Value.bool (decide (40 < lb.length))), u2, u5, (Value.tuple #[u9, u11, (Value.bool (isP lb))]), u1, u2, (Value.tuple #[u9, u11, (Value.bool (isP lb))]), u9, u11, (Value.bool (isP lb)), u5, (eN ((trimL lb).length)), (Value.bool (decide (((trimL lb).length) = 0))), (Value.bool false), (Value.bool true), (Value.bool true), u9, (eN ((quoP la lb).length)), (Value.bool true), (Value.bool true), (Value.bool true), u11, (eN ((remP la lb).length)), (Value.bool true), (Value.bool true), undef, undef, undef, undef, undef, undef, undef, undef, undef, undef, undef, undef, undef, undef, undef, undef, undef, undef, undef, undef, undef, undef, undef, undef, undef, undef, undef, undef, undef, undef, undef, undef, undef, undef, undef, undef, undef, undef, undef, undef, undef, undef, undef, undef, undef] (by kernel_rfl) ?_
        refine wpL.is (v := (Value.bool true)) rfl (d_assign (v := (Value.bool true)) rfl) ?_
        refine wpL.flat [u1, u2, undef, undef, (Value.bool true), u5, u9, u11, (Value.bool false), undef, undef, undef, (Value.bool true), (Value.bool false), u1, (eN la.length), (Value.bool false), (Value.bool false), u2, (eN lb.length), (Value.bool (decide (40 < lb.length))), (Value.bool (decide (40 < lb.length))), u2, u5, (Value.tuple #[u9, u11, (Value.bool (isP lb))]), u1, u2, (Value.tuple #[u9, u11, (Value.bool (isP lb))]), u9, u11, (Value.bool (isP lb)), u5, (eN ((trimL lb).length)), (Value.bool (decide (((trimL lb).length) = 0))), (Value.bool false), (Value.bool true), (Value.bool true), u9, (eN ((quoP la lb).length)), (Value.bool true), (Value.bool true), (Value.bool true), u11, (eN ((remP la lb).length)), (Value.bool true), (Value.bool true), undef, undef, undef, undef, undef, undef, undef, undef, undef, undef, undef, undef, undef, undef, undef, undef, undef, undef, undef, undef, undef, undef, undef, undef, undef, undef, undef, undef, undef, undef, undef, undef, undef, undef, undef, undef, undef, undef, undef, undef, undef, undef, undef, undef, undef] (by kernel_rfl) ?_
        refine wpL.done ?_
        refine then_n ?_
        refine wpIn_ret ?_
        refine then_r ?_
        refine leave0 (v := (Value.bool true)) (res1 Try.results9 rfl) ?_
        exact ⟨rfl, oW⟩
      · skip
        have e0_ : ¬ trimL lb = [] := fun e => k3 (by rw [e]; rfl)
        refine wp_eq (l' := [u1, u2, undef, undef, (Value.bool false), u5, u9, u11, (Value.bool true), undef, undef, undef, (Value.bool true), (Value.bool false), u1, (eN la.length), (Value.bool false), (Value.bool false), u2, (eN lb.length), (Value.bool (decide (40 < lb.length))), (Value.bool (decide (40 < lb.length))), u2, u5, (Value.tuple #[u9, u11, (Value.bool (isP lb))]), u1, u2, (Value.tuple #[u9, u11, (Value.bool (isP lb))]), u9, u11, (Value.bool (isP lb)), u5, (eN ((trimL lb).length)), (Value.bool (decide (((trimL lb).length) = 0))), undef, undef, undef, undef, undef, undef, undef, undef, undef, undef, undef, undef, undef, undef, undef, undef, undef, undef, undef, undef, undef, undef, undef, undef, undef, undef, undef, undef, undef, undef, undef, undef, undef, undef, undef, undef, undef, undef, undef, undef, undef, undef, undef, undef, undef, undef, undef, undef, undef, undef, undef, undef, undef, undef, undef, undef, undef]) (show ([u1, u2, undef, undef, (Value.bool false), u5, u9, u11, (Value.bool (isP lb)), undef, undef, undef, (Value.bool true), (Value.bool false), u1, (eN la.length), (Value.bool false), (Value.bool false), u2, (eN lb.length), (Value.bool (decide (40 < lb.length))), (Value.bool (decide (40 < lb.length))), u2, u5, (Value.tuple #[u9, u11, (Value.bool (isP lb))]), u1, u2, (Value.tuple #[u9, u11, (Value.bool (isP lb))]), u9, u11, (Value.bool (isP lb)), u5, (eN ((trimL lb).length)), (Value.bool (decide (((trimL lb).length) = 0))), undef, undef, undef, undef, undef, undef, undef, undef, undef, undef, undef, undef, undef, undef, undef, undef, undef, undef, undef, undef, undef, undef, undef, undef, undef, undef, undef, undef, undef, undef, undef, undef, undef, undef, undef, undef, undef, undef, undef, undef, undef, undef, undef, undef, undef, undef, undef, undef, undef, undef, undef, undef, undef, undef, undef, undef, undef] : List Value) = [u1, u2, undef, undef, (Value.bool false), u5, u9, u11, (Value.bool true), undef, undef, undef, (Value.bool true), (Value.bool false), u1, (eN la.length), (Value.bool false), (Value.bool false), u2, (eN lb.length), (Value.bool (decide (40 < lb.length))), (Value.bool (decide (40 < lb.length))), u2, u5, (Value.tuple #[u9, u11, (Value.bool (isP lb))]), u1, u2, (Value.tuple #[u9, u11, (Value.bool (isP lb))]), u9, u11, (Value.bool (isP lb)), u5, (eN ((trimL lb).length)), (Value.bool (decide (((trimL lb).length) = 0))), undef, undef, undef, undef, undef, undef, undef, undef, undef, undef, undef, undef, undef, undef, undef, undef, undef, undef, undef, undef, undef, undef, undef, undef, undef, undef, undef, undef, undef, undef, undef, undef, undef, undef, undef, undef, undef, undef, undef, undef, undef, undef, undef, undef, undef, undef, undef, undef, undef, undef, undef, undef, undef, undef, undef, undef, undef] from reslot [u1, u2, undef, undef, (Value.bool false), u5, u9, u11, (Value.bool (isP lb)), undef, undef, undef, (Value.bool true), (Value.bool false), u1, (eN la.length), (Value.bool false), (Value.bool false), u2, (eN lb.length), (Value.bool (decide (40 < lb.length))), (Value.bool (decide (40 < lb.length))), u2, u5, (Value.tuple #[u9, u11, (Value.bool (isP lb))]), u1, u2, (Value.tuple #[u9, u11, (Value.bool (isP lb))]), u9, u11, (Value.bool (isP lb)), u5, (eN ((trimL lb).length)), (Value.bool (decide (((trimL lb).length) = 0))), undef, undef, undef, undef, undef, undef, undef, undef, undef, undef, undef, undef, undef, undef, undef, undef, undef, undef, undef, undef, undef, undef, undef, undef, undef, undef, undef, undef, undef, undef, undef, undef, undef, undef, undef, undef, undef, undef, undef, undef, undef, undef, undef, undef, undef, undef, undef, undef, undef, undef, undef, undef, undef, undef, undef, undef, undef] 8 (by rw [isP_yes e0_])) ?_
        refine wpIn_skip ?_
        refine then_n ?_
        refine wpIn_seq ?_
        refine plain ?_
        refine wpL.is (v := u1) rfl (d_move (v := u1) rfl) ?_
        refine wpL.is (v := u2) rfl (d_move (v := u2) rfl) ?_
        refine wpL.op rfl (d_call (xl := [.tmp 47, .tmp 48]) (al := [u1, u2]) Try.func16 (by kernel_rfl) rfl rfl rfl (mul_ok la lb u1 u2 _ (Ps.no h1) (Ps.no h2) (by first | omega | (simp; done) | (simp; omega)) (by first | omega | (simp; done) | (simp; omega)))) ?_
        rintro u17 w15 f18
        replace f18 := f18.ps
        obtain ⟨f18, o16⟩ := f18
        replace f18 := f18.less (Y := (Old W.heap.size)) (old_old oW.size)
        replace h1 := h1.step0 o16
        replace h2 := h2.step0 o16
        replace f6 := f6.step0 o16
        replace f10 := f10.step0 o16
        replace f12 := f12.step0 o16
        replace oW := oW.tail0 o16
        refine wpL.flat [u1, u2, undef, undef, (Value.bool false), u5, u9, u11, (Value.bool true), undef, undef, undef, (Value.bool true), (Value.bool false), u1, (eN la.length), (Value.bool false), (Value.bool false), u2, (eN lb.length), (Value.bool (decide (40 < lb.length))), (Value.bool (decide (40 < lb.length))), u2, u5, (Value.tuple #[u9, u11, (Value.bool (isP lb))]), u1, u2, (Value.tuple #[u9, u11, (Value.bool (isP lb))]), u9, u11, (Value.bool (isP lb)), u5, (eN ((trimL lb).length)), (Value.bool (decide (((trimL lb).length) = 0))), undef, undef, undef, undef, undef, undef, undef, undef, undef, undef, undef, undef, undef, u1, u2, u17, undef, undef, undef, undef, undef, undef, undef, undef, undef, undef, undef, undef, undef, undef, undef, undef, undef, undef, undef, undef, undef, undef, undef, undef, undef, undef, undef, undef, undef, undef, undef, undef, undef, undef, undef, undef, undef, undef, undef, undef, undef] (by kernel_rfl) ?_
        refine wpL.is (v := u2) rfl (d_move (v := u2) rfl) ?_
        refine wpL.op rfl (d_call (xl := [.tmp 49, .tmp 50]) (al := [u17, u2]) Try.func21 (by kernel_rfl) rfl rfl rfl (div_ok (mulP la lb) lb u17 u2 _ (Ps.no f18) (Ps.no h2) (by have := mulP_len la lb; first | omega | (simp; done) | (simp; omega)) (by first | omega | (simp; done) | (simp; omega)))) ?_
        rintro _ w19 ⟨u21, u23, rfl, f22, f24, o20⟩
        replace f22 := f22.less (Y := (Old W.heap.size)) (old_old oW.size)
        replace f24 := f24.less (Y := (Old W.heap.size)) (old_old oW.size)
        replace h1 := h1.step0 o20
        replace h2 := h2.step0 o20
        replace f6 := f6.step0 o20
        replace f10 := f10.step0 o20
        replace f12 := f12.step0 o20
        replace f18 := f18.step0 o20
        replace oW := oW.tail0 o20
        refine wpL.is (v := (Value.tuple #[u21, u23, (Value.bool (isP lb))])) rfl (d_move (v := (Value.tuple #[u21, u23, (Value.bool (isP lb))])) rfl) ?_
        refine wpL.flat [u1, u2, undef, undef, (Value.bool false), u5, u9, u11, (Value.bool true), undef, undef, undef, (Value.bool true), (Value.bool false), u1, (eN la.length), (Value.bool false), (Value.bool false), u2, (eN lb.length), (Value.bool (decide (40 < lb.length))), (Value.bool (decide (40 < lb.length))), u2, u5, (Value.tuple #[u9, u11, (Value.bool (isP lb))]), u1, u2, (Value.tuple #[u9, u11, (Value.bool (isP lb))]), u9, u11, (Value.bool (isP lb)), u5, (eN ((trimL lb).length)), (Value.bool (decide (((trimL lb).length) = 0))), undef, undef, undef, undef, undef, undef, undef, undef, undef, undef, undef, undef, (Value.tuple #[u21, u23, (Value.bool (isP lb))]), u1, u2, u17, u2, (Value.tuple #[u21, u23, (Value.bool (isP lb))]), undef, undef, undef, undef, undef, undef, undef, undef, undef, undef, undef, undef, undef, undef, undef, undef, undef, undef, undef, undef, undef, undef, undef, undef, undef, undef, undef, undef, undef, undef, undef, undef, undef, undef, undef, undef, undef, undef, undef] (by kernel_rfl) ?_
        refine wpL.is (v := u21) rfl (d_extract (v := u21) rfl rfl) ?_
        refine wpL.is (v := u23) rfl (d_extract (v := u23) rfl rfl) ?_
        refine wpL.is (v := (Value.bool (isP lb))) rfl (d_extract (v := (Value.bool (isP lb))) rfl rfl) ?_
        refine wpL.flat [u1, u2, undef, undef, (Value.bool false), u5, u9, u11, (Value.bool true), undef, undef, undef, (Value.bool true), (Value.bool false), u1, (eN la.length), (Value.bool false), (Value.bool false), u2, (eN lb.length), (Value.bool (decide (40 < lb.length))), (Value.bool (decide (40 < lb.length))), u2, u5, (Value.tuple #[u9, u11, (Value.bool (isP lb))]), u1, u2, (Value.tuple #[u9, u11, (Value.bool (isP lb))]), u9, u11, (Value.bool (isP lb)), u5, (eN ((trimL lb).length)), (Value.bool (decide (((trimL lb).length) = 0))), undef, undef, undef, undef, undef, undef, undef, undef, undef, undef, undef, undef, (Value.tuple #[u21, u23, (Value.bool (isP lb))]), u1, u2, u17, u2, (Value.tuple #[u21, u23, (Value.bool (isP lb))]), u21, u23, (Value.bool (isP lb)), undef, undef, undef, undef, undef, undef, undef, undef, undef, undef, undef, undef, undef, undef, undef, undef, undef, undef, undef, undef, undef, undef, undef, undef, undef, undef, undef, undef, undef, undef, undef, undef, undef, undef, undef, undef] (by kernel_rfl) ?_
        refine wpL.is (v := u21) rfl (d_assign (v := u21) rfl) ?_
        refine wpL.is (v := u23) rfl (d_assign (v := u23) rfl) ?_
        refine wpL.is (v := (Value.bool (isP lb))) rfl (d_assign (v := (Value.bool (isP lb))) rfl) ?_
        refine wpL.flat [u1, u2, undef, undef, (Value.bool false), u5, u9, u11, (Value.bool true), u21, u23, (Value.bool (isP lb)), (Value.bool true), (Value.bool false), u1, (eN la.length), (Value.bool false), (Value.bool false), u2, (eN lb.length), (Value.bool (decide (40 < lb.length))), (Value.bool (decide (40 < lb.length))), u2, u5, (Value.tuple #[u9, u11, (Value.bool (isP lb))]), u1, u2, (Value.tuple #[u9, u11, (Value.bool (isP lb))]), u9, u11, (Value.bool (isP lb)), u5, (eN ((trimL lb).length)), (Value.bool (decide (((trimL lb).length) = 0))), undef, undef, undef, undef, undef, undef, undef, undef, undef, undef, undef, undef, (Value.tuple #[u21, u23, (Value.bool (isP lb))]), u1, u2, u17, u2, (Value.tuple #[u21, u23, (Value.bool (isP lb))]), u21, u23, (Value.bool (isP lb)), undef, undef, undef, undef, undef, undef, undef, undef, undef, undef, undef, undef, undef, undef, undef, undef, undef, undef, undef, undef, undef, undef, undef, undef, undef, undef, undef, undef, undef, undef, undef, undef, undef, undef, undef, undef] (by kernel_rfl) ?_
        refine wpL.done ?_
        refine fr_eq (l' := [u1, u2, undef, undef, (Value.bool false), u5, u9, u11, (Value.bool true), u21, u23, (Value.bool true), (Value.bool true), (Value.bool false), u1, (eN la.length), (Value.bool false), (Value.bool false), u2, (eN lb.length), (Value.bool (decide (40 < lb.length))), (Value.bool (decide (40 < lb.length))), u2, u5, (Value.tuple #[u9, u11, (Value.bool (isP lb))]), u1, u2, (Value.tuple #[u9, u11, (Value.bool (isP lb))]), u9, u11, (Value.bool (isP lb)), u5, (eN ((trimL lb).length)), (Value.bool (decide (((trimL lb).length) = 0))), undef, undef, undef, undef, undef, undef, undef, undef, undef, undef, undef, undef, (Value.tuple #[u21, u23, (Value.bool (isP lb))]), u1, u2, u17, u2, (Value.tuple #[u21, u23, (Value.bool (isP lb))]), u21, u23, (Value.bool (isP lb)), undef, undef, undef, undef, undef, undef, undef, undef, undef, undef, undef, undef, undef, undef, undef, undef, undef, undef, undef, undef, undef, undef, undef, undef, undef, undef, undef, undef, undef, undef, undef, undef, undef, undef, undef, undef]) (show ([u1, u2, undef, undef, (Value.bool false), u5, u9, u11, (Value.bool true), u21, u23, (Value.bool (isP lb)), (Value.bool true), (Value.bool false), u1, (eN la.length), (Value.bool false), (Value.bool false), u2, (eN lb.length), (Value.bool (decide (40 < lb.length))), (Value.bool (decide (40 < lb.length))), u2, u5, (Value.tuple #[u9, u11, (Value.bool (isP lb))]), u1, u2, (Value.tuple #[u9, u11, (Value.bool (isP lb))]), u9, u11, (Value.bool (isP lb)), u5, (eN ((trimL lb).length)), (Value.bool (decide (((trimL lb).length) = 0))), undef, undef, undef, undef, undef, undef, undef, undef, undef, undef, undef, undef, (Value.tuple #[u21, u23, (Value.bool (isP lb))]), u1, u2, u17, u2, (Value.tuple #[u21, u23, (Value.bool (isP lb))]), u21, u23, (Value.bool (isP lb)), undef, undef, undef, undef, undef, undef, undef, undef, undef, undef, undef, undef, undef, undef, undef, undef, undef, undef, undef, undef, undef, undef, undef, undef, undef, undef, undef, undef, undef, undef, undef, undef, undef, undef, undef, undef] : List Value) = [u1, u2, undef, undef, (Value.bool false), u5, u9, u11, (Value.bool true), u21, u23, (Value.bool true), (Value.bool true), (Value.bool false), u1, (eN la.length), (Value.bool false), (Value.bool false), u2, (eN lb.length), (Value.bool (decide (40 < lb.length))), (Value.bool (decide (40 < lb.length))), u2, u5, (Value.tuple #[u9, u11, (Value.bool (isP lb))]), u1, u2, (Value.tuple #[u9, u11, (Value.bool (isP lb))]), u9, u11, (Value.bool (isP lb)), u5, (eN ((trimL lb).length)), (Value.bool (decide (((trimL lb).length) = 0))), undef, undef, undef, undef, undef, undef, undef, undef, undef, undef, undef, undef, (Value.tuple #[u21, u23, (Value.bool (isP lb))]), u1, u2, u17, u2, (Value.tuple #[u21, u23, (Value.bool (isP lb))]), u21, u23, (Value.bool (isP lb)), undef, undef, undef, undef, undef, undef, undef, undef, undef, undef, undef, undef, undef, undef, undef, undef, undef, undef, undef, undef, undef, undef, undef, undef, undef, undef, undef, undef, undef, undef, undef, undef, undef, undef, undef, undef] from reslot [u1, u2, undef, undef, (Value.bool false), u5, u9, u11, (Value.bool true), u21, u23, (Value.bool (isP lb)), (Value.bool true), (Value.bool false), u1, (eN la.length), (Value.bool false), (Value.bool false), u2, (eN lb.length), (Value.bool (decide (40 < lb.length))), (Value.bool (decide (40 < lb.length))), u2, u5, (Value.tuple #[u9, u11, (Value.bool (isP lb))]), u1, u2, (Value.tuple #[u9, u11, (Value.bool (isP lb))]), u9, u11, (Value.bool (isP lb)), u5, (eN ((trimL lb).length)), (Value.bool (decide (((trimL lb).length) = 0))), undef, undef, undef, undef, undef, undef, undef, undef, undef, undef, undef, undef, (Value.tuple #[u21, u23, (Value.bool (isP lb))]), u1, u2, u17, u2, (Value.tuple #[u21, u23, (Value.bool (isP lb))]), u21, u23, (Value.bool (isP lb)), undef, undef, undef, undef, undef, undef, undef, undef, undef, undef, undef, undef, undef, undef, undef, undef, undef, undef, undef, undef, undef, undef, undef, undef, undef, undef, undef, undef, undef, undef, undef, undef, undef, undef, undef, undef] 11 (by rw [isP_yes e0_])) ?_
        refine then_n ?_
        refine wpIn_seq ?_
        refine drawn' (O := No) (n := 37) [0, 1, 3, 7, 15, 31, 63, 31, 159, 511, 1023, 2047, 4095, 4095, 16383, 4095, 65535, 131071, 4095, 393215, 917503, 2097151, 4194303, 8388607, 16777215, 33554431, 67108863, 134217727, 268435455, 536870911, 1073741823, 536870911, 2684354559, 6979321855, 17179869183, 34359738367, 68719476735] [(0, 55), (1, 56), (2, 57), (3, 58), (4, 59), (5, 60), (6, 61), (7, 62), (8, 63), (9, 64), (10, 65), (11, 66), (12, 67), (13, 68), (14, 69), (15, 70), (16, 71), (17, 72), (18, 73), (19, 74), (20, 75), (21, 76), (22, 77), (23, 78), (24, 79), (25, 80), (26, 81), (27, 82), (28, 83), (29, 84), (30, 85), (31, 86), (32, 87), (33, 88), (34, 89), (35, 90), (36, 4)] [0, 1, 2, 3, 4, 5, 6, 7, 8, 9, 10, 11, 12, 13, 14, 15, 16, 17, 18, 19, 20, 21, 22, 23, 24, 25, 26, 27, 28, 29, 30, 31, 32, 33, 34, 35, 36] [] (fun i_ => ([RF.is No (Value.bool true), RF.is No (Value.bool true), RF.is No (Value.bool true), RF.is No (Value.bool true), RF.is No (Value.bool true), RF.is No u11, RF.is No (eN ((remP la lb).length)), RF.is No u5, RF.is No (eN ((trimL lb).length)), RF.is No (Value.bool true), RF.is No (Value.bool true), RF.is No (Value.bool true), RF.is No u9, RF.is No u5, RF.ps No (Old W.heap.size) (Seq kB (mulP (quoP la lb) (trimL lb))) no_any, RF.is No u11, RF.ps No (Old W.heap.size) (Seq kB (addP (mulP (quoP la lb) (trimL lb)) (remP la lb))) no_any, RF.is No (Value.string (strOf (addP (mulP (quoP la lb) (trimL lb)) (remP la lb)))), RF.is No u1, RF.ps No (Old W.heap.size) (Seq kB (trimL la)) no_any, RF.is No (Value.string (strOf (trimL la))), RF.is No (Value.bool true), RF.is No (Value.bool true), RF.is No (Value.bool true), RF.is No u23, RF.is No (eN ((remP (mulP la lb) lb).length)), RF.is No (Value.bool true), RF.is No (Value.bool true), RF.is No (Value.bool true), RF.is No u21, RF.is No (Value.string (strOf (quoP (mulP la lb) lb))), RF.is No u1, RF.ps No (Old W.heap.size) (Seq kB (trimL la)) no_any, RF.is No (Value.string (strOf (trimL la))), RF.is No (Value.bool true), RF.is No (Value.bool true), RF.is No (Value.bool true)] : List (RF No)).getD i_ (RF.any No)) (fun _ w_ => True) (fun v27 => [u1, u2, undef, undef, (v27 36), u5, u9, u11, (Value.bool true), u21, u23, (Value.bool true), (Value.bool true), (Value.bool false), u1, (eN la.length), (Value.bool false), (Value.bool false), u2, (eN lb.length), (Value.bool (decide (40 < lb.length))), (Value.bool (decide (40 < lb.length))), u2, u5, (Value.tuple #[u9, u11, (Value.bool (isP lb))]), u1, u2, (Value.tuple #[u9, u11, (Value.bool (isP lb))]), u9, u11, (Value.bool (isP lb)), u5, (eN ((trimL lb).length)), (Value.bool (decide (((trimL lb).length) = 0))), undef, undef, undef, undef, undef, undef, undef, undef, undef, undef, undef, undef, (Value.tuple #[u21, u23, (Value.bool (isP lb))]), u1, u2, u17, u2, (Value.tuple #[u21, u23, (Value.bool (isP lb))]), u21, u23, (Value.bool (isP lb)), (v27 0), (v27 1), (v27 2), (v27 3), (v27 4), (v27 5), (v27 6), (v27 7), (v27 8), (v27 9), (v27 10), (v27 11), (v27 12), (v27 13), (v27 14), (v27 15), (v27 16), (v27 17), (v27 18), (v27 19), (v27 20), (v27 21), (v27 22), (v27 23), (v27 24), (v27 25), (v27 26), (v27 27), (v27 28), (v27 29), (v27 30), (v27 31), (v27 32), (v27 33), (v27 34), (v27 35)]) s_mx (by kernel_rfl) rfl (by decide) (by rfl) (fun v_ => by kernel_rfl) (fun _ => fun _ _ _ _ => trivial) trivial ?_ ?_ ?_
        · skip
          refine ls_cons ?_ ?_
          · intro v27 lo hi w_ k_ hO hd _ _ hk_ _ hR hold
            clear hd hold
            refine ⟨_, rfl, gd rfl ?_⟩
            exact Does.is (d_move (v := (Value.bool true)) rfl)
          refine ls_cons ?_ ?_
          · intro v27 lo hi w_ k_ hO hd _ _ hk_ _ hR hold
            have e0 : v27 0 = (Value.bool true) := hd 0 (by kernel_rfl)
            clear hd hold
            refine ⟨_, rfl, gd rfl ?_⟩
            exact Does.is (d_move (v := (Value.bool true)) e0)
          refine ls_cons ?_ ?_
          · intro v27 lo hi w_ k_ hO hd _ _ hk_ _ hR hold
            have e1 : v27 1 = (Value.bool true) := hd 1 (by kernel_rfl)
            clear hd hold
            refine ⟨_, rfl, gd_on rfl rfl rfl (Nat.le_of_ble_eq_true rfl) e1 ?_⟩
            exact Does.is (d_move (v := (Value.bool true)) rfl)
          refine ls_cons ?_ ?_
          · intro v27 lo hi w_ k_ hO hd _ _ hk_ _ hR hold
            have e1 : v27 1 = (Value.bool true) := hd 1 (by kernel_rfl)
            have e2 : v27 2 = (Value.bool true) := hd 2 (by kernel_rfl)
            clear hd hold
            refine ⟨_, rfl, gd rfl ?_⟩
            exact Does.is (d_pick (b := true) (v := (Value.bool true)) e1 e2)
          refine ls_cons ?_ ?_
          · intro v27 lo hi w_ k_ hO hd _ _ hk_ _ hR hold
            have e3 : v27 3 = (Value.bool true) := hd 3 (by kernel_rfl)
            clear hd hold
            refine ⟨_, rfl, gd rfl ?_⟩
            exact Does.is (d_move (v := (Value.bool true)) e3)
          refine ls_cons ?_ ?_
          · intro v27 lo hi w_ k_ hO hd _ _ hk_ _ hR hold
            have e4 : v27 4 = (Value.bool true) := hd 4 (by kernel_rfl)
            clear hd hold
            refine ⟨_, rfl, gd_on rfl rfl rfl (Nat.le_of_ble_eq_true rfl) e4 ?_⟩
            exact Does.is (d_move (v := u11) rfl)
          refine ls_cons ?_ ?_
          · intro v27 lo hi w_ k_ hO hd _ _ hk_ _ hR hold
            have e4 : v27 4 = (Value.bool true) := hd 4 (by kernel_rfl)
            have e5 : v27 5 = u11 := hd 5 (by kernel_rfl)
            clear hd hold
            refine ⟨_, rfl, gd_on rfl rfl rfl (Nat.le_of_ble_eq_true rfl) e4 ?_⟩
            exact Does.is (d_lenS rfl Try.underlying23 e5 (f12.step hO no_any))
          refine ls_cons ?_ ?_
          · intro v27 lo hi w_ k_ hO hd _ _ hk_ _ hR hold
            have e4 : v27 4 = (Value.bool true) := hd 4 (by kernel_rfl)
            clear hd hold
            refine ⟨_, rfl, gd_on rfl rfl rfl (Nat.le_of_ble_eq_true rfl) e4 ?_⟩
            exact Does.is (d_move (v := u5) rfl)
          refine ls_cons ?_ ?_
          · intro v27 lo hi w_ k_ hO hd _ _ hk_ _ hR hold
            have e4 : v27 4 = (Value.bool true) := hd 4 (by kernel_rfl)
            have e7 : v27 7 = u5 := hd 7 (by kernel_rfl)
            clear hd hold
            refine ⟨_, rfl, gd_on rfl rfl rfl (Nat.le_of_ble_eq_true rfl) e4 ?_⟩
            exact Does.is (d_lenS rfl Try.underlying23 e7 (f6.step hO no_any))
          refine ls_cons ?_ ?_
          · intro v27 lo hi w_ k_ hO hd _ _ hk_ _ hR hold
            have e4 : v27 4 = (Value.bool true) := hd 4 (by kernel_rfl)
            have e6 : v27 6 = (eN ((remP la lb).length)) := hd 6 (by kernel_rfl)
            have e8 : v27 8 = (eN ((trimL lb).length)) := hd 8 (by kernel_rfl)
            clear hd hold
            refine ⟨_, rfl, gd_on rfl rfl rfl (Nat.le_of_ble_eq_true rfl) e4 ?_⟩
            exact Does.is (n_lss (a := ((remP la lb).length)) (b := ((trimL lb).length)) e6 e8 (decide_eq_true (rem_lt e0_)))
          refine ls_cons ?_ ?_
          · intro v27 lo hi w_ k_ hO hd _ _ hk_ _ hR hold
            have e4 : v27 4 = (Value.bool true) := hd 4 (by kernel_rfl)
            have e9 : v27 9 = (Value.bool true) := hd 9 (by kernel_rfl)
            clear hd hold
            refine ⟨_, rfl, gd rfl ?_⟩
            exact Does.is (d_pick (b := true) (v := (Value.bool true)) e4 e9)
          refine ls_cons ?_ ?_
          · intro v27 lo hi w_ k_ hO hd _ _ hk_ _ hR hold
            have e10 : v27 10 = (Value.bool true) := hd 10 (by kernel_rfl)
            clear hd hold
            refine ⟨_, rfl, gd rfl ?_⟩
            exact Does.is (d_move (v := (Value.bool true)) e10)
          refine ls_cons ?_ ?_
          · intro v27 lo hi w_ k_ hO hd _ _ hk_ _ hR hold
            have e11 : v27 11 = (Value.bool true) := hd 11 (by kernel_rfl)
            clear hd hold
            refine ⟨_, rfl, gd_on rfl rfl rfl (Nat.le_of_ble_eq_true rfl) e11 ?_⟩
            exact Does.is (d_move (v := u9) rfl)
          refine ls_cons ?_ ?_
          · intro v27 lo hi w_ k_ hO hd _ _ hk_ _ hR hold
            have e11 : v27 11 = (Value.bool true) := hd 11 (by kernel_rfl)
            clear hd hold
            refine ⟨_, rfl, gd_on rfl rfl rfl (Nat.le_of_ble_eq_true rfl) e11 ?_⟩
            exact Does.is (d_move (v := u5) rfl)
          refine ls_cons ?_ ?_
          · intro v27 lo hi w_ k_ hO hd _ _ hk_ _ hR hold
            have e11 : v27 11 = (Value.bool true) := hd 11 (by kernel_rfl)
            have e12 : v27 12 = u9 := hd 12 (by kernel_rfl)
            have e13 : v27 13 = u5 := hd 13 (by kernel_rfl)
            clear hd hold
            refine ⟨_, rfl, gd_on rfl rfl rfl (Nat.le_of_ble_eq_true rfl) e11 ?_⟩
            refine Does.mono (R := ROw 5 eB (mulP (quoP la lb) (trimL lb)) w_) ?_ (fun u w' h => ⟨(h.ps).1.less (old_old (Nat.le_trans oW.size hO.size)), (h.ps).2⟩)
            exact d_call (xl := [.tmp 67, .tmp 68]) (al := [u9, u5]) Try.func16 (by kernel_rfl) rfl (show ([(v27 12), (v27 13)] : List Value) = [u9, u5] from by rw [e12, e13]) rfl (mul_ok (quoP la lb) (trimL lb) u9 u5 _ (Ps.no (f10.step hO no_any)) (Ps.no (f6.step hO no_any)) (by have := quoP_len la lb; first | omega | (simp; done) | (simp; omega)) (by have := trimL_len lb; first | omega | (simp; done) | (simp; omega)))
          refine ls_cons ?_ ?_
          · intro v27 lo hi w_ k_ hO hd _ _ hk_ _ hR hold
            have e11 : v27 11 = (Value.bool true) := hd 11 (by kernel_rfl)
            clear hd hold
            refine ⟨_, rfl, gd_on rfl rfl rfl (Nat.le_of_ble_eq_true rfl) e11 ?_⟩
            exact Does.is (d_move (v := u11) rfl)
          refine ls_cons ?_ ?_
          · intro v27 lo hi w_ k_ hO hd _ _ hk_ _ hR hold
            have e11 : v27 11 = (Value.bool true) := hd 11 (by kernel_rfl)
            have d14 : Ps (Old W.heap.size) (Seq kB (mulP (quoP la lb) (trimL lb)) (v27 14)) w_ := hd 14 (by kernel_rfl)
            have e15 : v27 15 = u11 := hd 15 (by kernel_rfl)
            clear hd hold
            refine ⟨_, rfl, gd_on rfl rfl rfl (Nat.le_of_ble_eq_true rfl) e11 ?_⟩
            refine Does.mono (R := ROw 5 eB (addP (mulP (quoP la lb) (trimL lb)) (remP la lb)) w_) ?_ (fun u w' h => ⟨(h.ps).1.less (old_old (Nat.le_trans oW.size hO.size)), (h.ps).2⟩)
            exact d_call (xl := [.tmp 69, .tmp 70]) (al := [(v27 14), u11]) Try.func17 (by kernel_rfl) rfl (show ([(v27 14), (v27 15)] : List Value) = [(v27 14), u11] from by rw [e15]) rfl (add_ok (mulP (quoP la lb) (trimL lb)) (remP la lb) (v27 14) u11 _ (Ps.no d14) (Ps.no (f12.step hO no_any)) (by have := mulP_len (quoP la lb) (trimL lb); have := trimL_len lb; have := quoP_len la lb; first | omega | (simp; done) | (simp; omega)) (by have := remP_len la lb; first | omega | (simp; done) | (simp; omega)))
          refine ls_cons ?_ ?_
          · intro v27 lo hi w_ k_ hO hd _ _ hk_ _ hR hold
            have e11 : v27 11 = (Value.bool true) := hd 11 (by kernel_rfl)
            have d16 : Ps (Old W.heap.size) (Seq kB (addP (mulP (quoP la lb) (trimL lb)) (remP la lb)) (v27 16)) w_ := hd 16 (by kernel_rfl)
            clear hd hold
            refine ⟨_, rfl, gd_on rfl rfl rfl (Nat.le_of_ble_eq_true rfl) e11 ?_⟩
            exact Does.is (d_str Try.underlying23 Try.underlying5 Try.underlying9 rfl d16)
          refine ls_cons ?_ ?_
          · intro v27 lo hi w_ k_ hO hd _ _ hk_ _ hR hold
            have e11 : v27 11 = (Value.bool true) := hd 11 (by kernel_rfl)
            clear hd hold
            refine ⟨_, rfl, gd_on rfl rfl rfl (Nat.le_of_ble_eq_true rfl) e11 ?_⟩
            exact Does.is (d_move (v := u1) rfl)
          refine ls_cons ?_ ?_
          · intro v27 lo hi w_ k_ hO hd _ _ hk_ _ hR hold
            have e11 : v27 11 = (Value.bool true) := hd 11 (by kernel_rfl)
            have e18 : v27 18 = u1 := hd 18 (by kernel_rfl)
            clear hd hold
            refine ⟨_, rfl, gd_on rfl rfl rfl (Nat.le_of_ble_eq_true rfl) e11 ?_⟩
            refine Does.mono (R := ROw 5 eB (trimL la) w_) ?_ (fun u w' h => ⟨(h.ps).1.less (old_old (Nat.le_trans oW.size hO.size)), (h.ps).2⟩)
            exact d_call (xl := [.tmp 73]) (al := [u1]) Try.func18 (by kernel_rfl) rfl (show ([(v27 18)] : List Value) = [u1] from by rw [e18]) rfl (trim_ok la u1 _ (Ps.no (h1.step hO no_any)) (by first | omega | (simp; done) | (simp; omega)))
          refine ls_cons ?_ ?_
          · intro v27 lo hi w_ k_ hO hd _ _ hk_ _ hR hold
            have e11 : v27 11 = (Value.bool true) := hd 11 (by kernel_rfl)
            have d19 : Ps (Old W.heap.size) (Seq kB (trimL la) (v27 19)) w_ := hd 19 (by kernel_rfl)
            clear hd hold
            refine ⟨_, rfl, gd_on rfl rfl rfl (Nat.le_of_ble_eq_true rfl) e11 ?_⟩
            exact Does.is (d_str Try.underlying23 Try.underlying5 Try.underlying9 rfl d19)
          refine ls_cons ?_ ?_
          · intro v27 lo hi w_ k_ hO hd _ _ hk_ _ hR hold
            have e11 : v27 11 = (Value.bool true) := hd 11 (by kernel_rfl)
            have e17 : v27 17 = (Value.string (strOf (addP (mulP (quoP la lb) (trimL lb)) (remP la lb)))) := hd 17 (by kernel_rfl)
            have e20 : v27 20 = (Value.string (strOf (trimL la))) := hd 20 (by kernel_rfl)
            clear hd hold
            refine ⟨_, rfl, gd_on rfl rfl rfl (Nat.le_of_ble_eq_true rfl) e11 ?_⟩
            exact Does.is (d_seql (a := (addP (mulP (quoP la lb) (trimL lb)) (remP la lb))) (c := (trimL la)) e17 e20 (decide_eq_true (quo_eq e0_)))
          refine ls_cons ?_ ?_
          · intro v27 lo hi w_ k_ hO hd _ _ hk_ _ hR hold
            have e11 : v27 11 = (Value.bool true) := hd 11 (by kernel_rfl)
            have e21 : v27 21 = (Value.bool true) := hd 21 (by kernel_rfl)
            clear hd hold
            refine ⟨_, rfl, gd rfl ?_⟩
            exact Does.is (d_pick (b := true) (v := (Value.bool true)) e11 e21)
          refine ls_cons ?_ ?_
          · intro v27 lo hi w_ k_ hO hd _ _ hk_ _ hR hold
            have e22 : v27 22 = (Value.bool true) := hd 22 (by kernel_rfl)
            clear hd hold
            refine ⟨_, rfl, gd rfl ?_⟩
            exact Does.is (d_move (v := (Value.bool true)) e22)
          refine ls_cons ?_ ?_
          · intro v27 lo hi w_ k_ hO hd _ _ hk_ _ hR hold
            have e23 : v27 23 = (Value.bool true) := hd 23 (by kernel_rfl)
            clear hd hold
            refine ⟨_, rfl, gd_on rfl rfl rfl (Nat.le_of_ble_eq_true rfl) e23 ?_⟩
            exact Does.is (d_move (v := u23) rfl)
          refine ls_cons ?_ ?_
          · intro v27 lo hi w_ k_ hO hd _ _ hk_ _ hR hold
            have e23 : v27 23 = (Value.bool true) := hd 23 (by kernel_rfl)
            have e24 : v27 24 = u23 := hd 24 (by kernel_rfl)
            clear hd hold
            refine ⟨_, rfl, gd_on rfl rfl rfl (Nat.le_of_ble_eq_true rfl) e23 ?_⟩
            exact Does.is (d_lenS rfl Try.underlying23 e24 (f24.step hO no_any))
          refine ls_cons ?_ ?_
          · intro v27 lo hi w_ k_ hO hd _ _ hk_ _ hR hold
            have e23 : v27 23 = (Value.bool true) := hd 23 (by kernel_rfl)
            have e25 : v27 25 = (eN ((remP (mulP la lb) lb).length)) := hd 25 (by kernel_rfl)
            clear hd hold
            refine ⟨_, rfl, gd_on rfl rfl rfl (Nat.le_of_ble_eq_true rfl) e23 ?_⟩
            exact Does.is (n_eql (a := ((remP (mulP la lb) lb).length)) (b := 0) e25 rfl (decide_eq_true (by rw [rem_mul e0_]; rfl)))
          refine ls_cons ?_ ?_
          · intro v27 lo hi w_ k_ hO hd _ _ hk_ _ hR hold
            have e23 : v27 23 = (Value.bool true) := hd 23 (by kernel_rfl)
            have e26 : v27 26 = (Value.bool true) := hd 26 (by kernel_rfl)
            clear hd hold
            refine ⟨_, rfl, gd rfl ?_⟩
            exact Does.is (d_pick (b := true) (v := (Value.bool true)) e23 e26)
          refine ls_cons ?_ ?_
          · intro v27 lo hi w_ k_ hO hd _ _ hk_ _ hR hold
            have e27 : v27 27 = (Value.bool true) := hd 27 (by kernel_rfl)
            clear hd hold
            refine ⟨_, rfl, gd rfl ?_⟩
            exact Does.is (d_move (v := (Value.bool true)) e27)
          refine ls_cons ?_ ?_
          · intro v27 lo hi w_ k_ hO hd _ _ hk_ _ hR hold
            have e28 : v27 28 = (Value.bool true) := hd 28 (by kernel_rfl)
            clear hd hold
            refine ⟨_, rfl, gd_on rfl rfl rfl (Nat.le_of_ble_eq_true rfl) e28 ?_⟩
            exact Does.is (d_move (v := u21) rfl)
          refine ls_cons ?_ ?_
          · intro v27 lo hi w_ k_ hO hd _ _ hk_ _ hR hold
            have e28 : v27 28 = (Value.bool true) := hd 28 (by kernel_rfl)
            have e29 : v27 29 = u21 := hd 29 (by kernel_rfl)
            clear hd hold
            refine ⟨_, rfl, gd_on rfl rfl rfl (Nat.le_of_ble_eq_true rfl) e28 ?_⟩
            exact Does.is (d_str Try.underlying23 Try.underlying5 Try.underlying9 e29 (f22.step hO no_any))
          refine ls_cons ?_ ?_
          · intro v27 lo hi w_ k_ hO hd _ _ hk_ _ hR hold
            have e28 : v27 28 = (Value.bool true) := hd 28 (by kernel_rfl)
            clear hd hold
            refine ⟨_, rfl, gd_on rfl rfl rfl (Nat.le_of_ble_eq_true rfl) e28 ?_⟩
            exact Does.is (d_move (v := u1) rfl)
          refine ls_cons ?_ ?_
          · intro v27 lo hi w_ k_ hO hd _ _ hk_ _ hR hold
            have e28 : v27 28 = (Value.bool true) := hd 28 (by kernel_rfl)
            have e31 : v27 31 = u1 := hd 31 (by kernel_rfl)
            clear hd hold
            refine ⟨_, rfl, gd_on rfl rfl rfl (Nat.le_of_ble_eq_true rfl) e28 ?_⟩
            refine Does.mono (R := ROw 5 eB (trimL la) w_) ?_ (fun u w' h => ⟨(h.ps).1.less (old_old (Nat.le_trans oW.size hO.size)), (h.ps).2⟩)
            exact d_call (xl := [.tmp 86]) (al := [u1]) Try.func18 (by kernel_rfl) rfl (show ([(v27 31)] : List Value) = [u1] from by rw [e31]) rfl (trim_ok la u1 _ (Ps.no (h1.step hO no_any)) (by first | omega | (simp; done) | (simp; omega)))
          refine ls_cons ?_ ?_
          · intro v27 lo hi w_ k_ hO hd _ _ hk_ _ hR hold
            have e28 : v27 28 = (Value.bool true) := hd 28 (by kernel_rfl)
            have d32 : Ps (Old W.heap.size) (Seq kB (trimL la) (v27 32)) w_ := hd 32 (by kernel_rfl)
            clear hd hold
            refine ⟨_, rfl, gd_on rfl rfl rfl (Nat.le_of_ble_eq_true rfl) e28 ?_⟩
            exact Does.is (d_str Try.underlying23 Try.underlying5 Try.underlying9 rfl d32)
          refine ls_cons ?_ ?_
          · intro v27 lo hi w_ k_ hO hd _ _ hk_ _ hR hold
            have e28 : v27 28 = (Value.bool true) := hd 28 (by kernel_rfl)
            have e30 : v27 30 = (Value.string (strOf (quoP (mulP la lb) lb))) := hd 30 (by kernel_rfl)
            have e33 : v27 33 = (Value.string (strOf (trimL la))) := hd 33 (by kernel_rfl)
            clear hd hold
            refine ⟨_, rfl, gd_on rfl rfl rfl (Nat.le_of_ble_eq_true rfl) e28 ?_⟩
            exact Does.is (d_seql (a := (quoP (mulP la lb) lb)) (c := (trimL la)) e30 e33 (decide_eq_true (quo_mul e0_)))
          refine ls_cons ?_ ?_
          · intro v27 lo hi w_ k_ hO hd _ _ hk_ _ hR hold
            have e28 : v27 28 = (Value.bool true) := hd 28 (by kernel_rfl)
            have e34 : v27 34 = (Value.bool true) := hd 34 (by kernel_rfl)
            clear hd hold
            refine ⟨_, rfl, gd rfl ?_⟩
            exact Does.is (d_pick (b := true) (v := (Value.bool true)) e28 e34)
          refine ls_cons ?_ ?_
          · intro v27 lo hi w_ k_ hO hd _ _ hk_ _ hR hold
            have e35 : v27 35 = (Value.bool true) := hd 35 (by kernel_rfl)
            clear hd hold
            refine ⟨_, rfl, gd rfl ?_⟩
            exact Does.is (d_assign (v := (Value.bool true)) e35)
          exact ls_nil
        · skip
          exact ms_nil
        intro v27 lo_ hi_ w28 o29 hd iv_ hR
        have e0 : v27 0 = (Value.bool true) := hd 0 (by decide)
        have e1 : v27 1 = (Value.bool true) := hd 1 (by decide)
        have e2 : v27 2 = (Value.bool true) := hd 2 (by decide)
        have e3 : v27 3 = (Value.bool true) := hd 3 (by decide)
        have e4 : v27 4 = (Value.bool true) := hd 4 (by decide)
        have e5 : v27 5 = u11 := hd 5 (by decide)
        have e6 : v27 6 = (eN ((remP la lb).length)) := hd 6 (by decide)
        have e7 : v27 7 = u5 := hd 7 (by decide)
        have e8 : v27 8 = (eN ((trimL lb).length)) := hd 8 (by decide)
        have e9 : v27 9 = (Value.bool true) := hd 9 (by decide)
        have e10 : v27 10 = (Value.bool true) := hd 10 (by decide)
        have e11 : v27 11 = (Value.bool true) := hd 11 (by decide)
        have e12 : v27 12 = u9 := hd 12 (by decide)
        have e13 : v27 13 = u5 := hd 13 (by decide)
        have e15 : v27 15 = u11 := hd 15 (by decide)
        have e17 : v27 17 = (Value.string (strOf (addP (mulP (quoP la lb) (trimL lb)) (remP la lb)))) := hd 17 (by decide)
        have e18 : v27 18 = u1 := hd 18 (by decide)
        have e20 : v27 20 = (Value.string (strOf (trimL la))) := hd 20 (by decide)
        have e21 : v27 21 = (Value.bool true) := hd 21 (by decide)
        have e22 : v27 22 = (Value.bool true) := hd 22 (by decide)
        have e23 : v27 23 = (Value.bool true) := hd 23 (by decide)
        have e24 : v27 24 = u23 := hd 24 (by decide)
        have e25 : v27 25 = (eN ((remP (mulP la lb) lb).length)) := hd 25 (by decide)
        have e26 : v27 26 = (Value.bool true) := hd 26 (by decide)
        have e27 : v27 27 = (Value.bool true) := hd 27 (by decide)
        have e28 : v27 28 = (Value.bool true) := hd 28 (by decide)
        have e29 : v27 29 = u21 := hd 29 (by decide)
        have e30 : v27 30 = (Value.string (strOf (quoP (mulP la lb) lb))) := hd 30 (by decide)
        have e31 : v27 31 = u1 := hd 31 (by decide)
        have e33 : v27 33 = (Value.string (strOf (trimL la))) := hd 33 (by decide)
        have e34 : v27 34 = (Value.bool true) := hd 34 (by decide)
        have e35 : v27 35 = (Value.bool true) := hd 35 (by decide)
        have e36 : v27 36 = (Value.bool true) := hd 36 (by decide)
        have f_v27_14 : Ps (Old W.heap.size) (Seq kB (mulP (quoP la lb) (trimL lb)) (v27 14)) w28 := hd 14 (by decide)
        have f_v27_16 : Ps (Old W.heap.size) (Seq kB (addP (mulP (quoP la lb) (trimL lb)) (remP la lb)) (v27 16)) w28 := hd 16 (by decide)
        have f_v27_19 : Ps (Old W.heap.size) (Seq kB (trimL la) (v27 19)) w28 := hd 19 (by decide)
        have f_v27_32 : Ps (Old W.heap.size) (Seq kB (trimL la) (v27 32)) w28 := hd 32 (by decide)
        clear hd iv_ lo_ hi_
        refine fr_eq (l' := [u1, u2, undef, undef, (Value.bool true), u5, u9, u11, (Value.bool true), u21, u23, (Value.bool true), (Value.bool true), (Value.bool false), u1, (eN la.length), (Value.bool false), (Value.bool false), u2, (eN lb.length), (Value.bool (decide (40 < lb.length))), (Value.bool (decide (40 < lb.length))), u2, u5, (Value.tuple #[u9, u11, (Value.bool (isP lb))]), u1, u2, (Value.tuple #[u9, u11, (Value.bool (isP lb))]), u9, u11, (Value.bool (isP lb)), u5, (eN ((trimL lb).length)), (Value.bool (decide (((trimL lb).length) = 0))), undef, undef, undef, undef, undef, undef, undef, undef, undef, undef, undef, undef, (Value.tuple #[u21, u23, (Value.bool (isP lb))]), u1, u2, u17, u2, (Value.tuple #[u21, u23, (Value.bool (isP lb))]), u21, u23, (Value.bool (isP lb)), (Value.bool true), (Value.bool true), (Value.bool true), (Value.bool true), (Value.bool true), u11, (eN ((remP la lb).length)), u5, (eN ((trimL lb).length)), (Value.bool true), (Value.bool true), (Value.bool true), u9, u5, (v27 14), u11, (v27 16), (Value.string (strOf (addP (mulP (quoP la lb) (trimL lb)) (remP la lb)))), u1, (v27 19), (Value.string (strOf (trimL la))), (Value.bool true), (Value.bool true), (Value.bool true), u23, (eN ((remP (mulP la lb) lb).length)), (Value.bool true), (Value.bool true), (Value.bool true), u21, (Value.string (strOf (quoP (mulP la lb) lb))), u1, (v27 32), (Value.string (strOf (trimL la))), (Value.bool true), (Value.bool true)]) (by rw [e0, e1, e2, e3, e4, e5, e6, e7, e8, e9, e10, e11, e12, e13, e15, e17, e18, e20, e21, e22, e23, e24, e25, e26, e27, e28, e29, e30, e31, e33, e34, e35, e36]) ?_
        clear e0 e1 e2 e3 e4 e5 e6 e7 e8 e9 e10 e11 e12 e13 e15 e17 e18 e20 e21 e22 e23 e24 e25 e26 e27 e28 e29 e30 e31 e33 e34 e35 e36
        replace h1 := h1.step o29 no_any
        replace h2 := h2.step o29 no_any
        replace f6 := f6.step o29 no_any
        replace f10 := f10.step o29 no_any
        replace f12 := f12.step o29 no_any
        replace f18 := f18.step o29 no_any
        replace f22 := f22.step o29 no_any
        replace f24 := f24.step o29 no_any
        clear hR
        replace oW := oW.tail o29 tl_no
        refine then_n ?_
        refine wpIn_ret ?_
        refine leave0 (v := (Value.bool true)) (res1 Try.results9 rfl) ?_
        exact ⟨rfl, oW⟩

set_option maxRecDepth 20000 in
set_option maxHeartbeats 4000000 in
theorem polyRing_ok (la lb lc : List UInt8) (u1 u2 u3 : Value) (W : World) (h1 : Ps No (Seq kB la u1) W) (h2 : Ps No (Seq kB lb u2) W) (h3 : Ps No (Seq kB lc u3) W) :
    CW Try.prog 4 #[u1, u2, u3] W (Rt (RIs (.bool true) W)) := by
  have oW : Only No W W := Only.refl _ _
  refine enter (al := [u1, u2, u3]) (k := 82) (l := [u1, u2, u3, undef, undef, undef, undef, undef, undef, undef, undef, undef, undef, undef, undef, undef, undef, undef, undef, undef, undef, undef, undef, undef, undef, undef, undef, undef, undef, undef, undef, undef, undef, undef, undef, undef, undef, undef, undef, undef, undef, undef, undef, undef, undef, undef, undef, undef, undef, undef, undef, undef, undef, undef, undef, undef, undef, undef, undef, undef, undef, undef, undef, undef, undef, undef, undef, undef, undef, undef, undef, undef, undef, undef, undef, undef, undef, undef, undef, undef, undef, undef, undef, undef, undef]) Try.func4 rfl Try.ntmps4 rfl rfl ?_
  refine wpIn_seq ?_
  refine plain ?_
  refine wpL.is (v := (Value.bool false)) rfl (d_assign (v := (Value.bool false)) rfl) ?_
  refine wpL.flat [u1, u2, u3, undef, undef, undef, (Value.bool false), undef, undef, undef, undef, undef, undef, undef, undef, undef, undef, undef, undef, undef, undef, undef, undef, undef, undef, undef, undef, undef, undef, undef, undef, undef, undef, undef, undef, undef, undef, undef, undef, undef, undef, undef, undef, undef, undef, undef, undef, undef, undef, undef, undef, undef, undef, undef, undef, undef, undef, undef, undef, undef, undef, undef, undef, undef, undef, undef, undef, undef, undef, undef, undef, undef, undef, undef, undef, undef, undef, undef, undef, undef, undef, undef, undef, undef, undef] (by kernel_rfl) ?_
  refine wpL.done ?_
  refine then_n ?_
  refine wpIn_seq ?_
  refine wpIn_seq ?_
  refine plain ?_
  refine wpL.op rfl (d_call (xl := []) (al := []) Try.func10 (by kernel_rfl) rfl rfl rfl (known_ok _)) ?_
  rintro _ w1 ⟨rfl, o2⟩
  replace h1 := h1.step0 o2
  replace h2 := h2.step0 o2
  replace h3 := h3.step0 o2
  replace oW := oW.tail0 o2
  refine wpL.is (v := (Value.bool false)) rfl (d_not rfl rfl) ?_
  refine wpL.flat [u1, u2, u3, undef, undef, undef, (Value.bool false), (Value.bool true), (Value.bool false), undef, undef, undef, undef, undef, undef, undef, undef, undef, undef, undef, undef, undef, undef, undef, undef, undef, undef, undef, undef, undef, undef, undef, undef, undef, undef, undef, undef, undef, undef, undef, undef, undef, undef, undef, undef, undef, undef, undef, undef, undef, undef, undef, undef, undef, undef, undef, undef, undef, undef, undef, undef, undef, undef, undef, undef, undef, undef, undef, undef, undef, undef, undef, undef, undef, undef, undef, undef, undef, undef, undef, undef, undef, undef, undef, undef] (by kernel_rfl) ?_
  refine wpL.done ?_
  refine then_n ?_
  refine cond_f rfl ?_
  refine wpIn_skip ?_
  refine then_n ?_
  refine wpIn_seq ?_
  refine wpIn_seq ?_
  by_cases k1 : 20 < la.length
  · skip
    refine plain ?_
    refine wpL.is (v := u1) rfl (d_move (v := u1) rfl) ?_
    refine wpL.is (v := (eN la.length)) rfl (d_lenS rfl Try.underlying23 rfl h1) ?_
    refine wpL.is (v := (Value.bool true)) rfl (n_gtr (a := la.length) (b := 20) rfl rfl (decide_eq_true k1)) ?_
    refine wpL.flat [u1, u2, u3, undef, undef, undef, (Value.bool false), (Value.bool true), (Value.bool false), u1, (eN la.length), (Value.bool true), undef, undef, undef, undef, undef, undef, undef, undef, undef, undef, undef, undef, undef, undef, undef, undef, undef, undef, undef, undef, undef, undef, undef, undef, undef, undef, undef, undef, undef, undef, undef, undef, undef, undef, undef, undef, undef, undef, undef, undef, undef, undef, undef, undef, undef, undef, undef, undef, undef, undef, undef, undef, undef, undef, undef, undef, undef, undef, undef, undef, undef, undef, undef, undef, undef, undef, undef, undef, undef, undef, undef, undef, undef] (by kernel_rfl) ?_
    refine wpL.is (v := (Value.bool true)) rfl (d_move (v := (Value.bool true)) rfl) ?_
    refine wpL.off rfl rfl rfl (Nat.le_of_ble_eq_true rfl) rfl ?_
    refine wpL.flat [u1, u2, u3, undef, undef, undef, (Value.bool false), (Value.bool true), (Value.bool false), u1, (eN la.length), (Value.bool true), (Value.bool true), undef, undef, undef, undef, undef, undef, undef, undef, undef, undef, undef, undef, undef, undef, undef, undef, undef, undef, undef, undef, undef, undef, undef, undef, undef, undef, undef, undef, undef, undef, undef, undef, undef, undef, undef, undef, undef, undef, undef, undef, undef, undef, undef, undef, undef, undef, undef, undef, undef, undef, undef, undef, undef, undef, undef, undef, undef, undef, undef, undef, undef, undef, undef, undef, undef, undef, undef, undef, undef, undef, undef, undef] (by kernel_rfl) ?_
    refine wpL.off rfl rfl rfl (Nat.le_of_ble_eq_true rfl) rfl ?_
    refine wpL.off rfl rfl rfl (Nat.le_of_ble_eq_true rfl) rfl ?_
    refine wpL.is (v := (Value.bool true)) rfl (d_pick (b := true) (v := (Value.bool true)) rfl rfl) ?_
    refine wpL.is (v := (Value.bool true)) rfl (d_move (v := (Value.bool true)) rfl) ?_
    refine wpL.flat [u1, u2, u3, undef, undef, undef, (Value.bool false), (Value.bool true), (Value.bool false), u1, (eN la.length), (Value.bool true), (Value.bool true), undef, undef, undef, (Value.bool true), (Value.bool true), undef, undef, undef, undef, undef, undef, undef, undef, undef, undef, undef, undef, undef, undef, undef, undef, undef, undef, undef, undef, undef, undef, undef, undef, undef, undef, undef, undef, undef, undef, undef, undef, undef, undef, undef, undef, undef, undef, undef, undef, undef, undef, undef, undef, undef, undef, undef, undef, undef, undef, undef, undef, undef, undef, undef, undef, undef, undef, undef, undef, undef, undef, undef, undef, undef, undef, undef] (by kernel_rfl) ?_
    refine wpL.off rfl rfl rfl (Nat.le_of_ble_eq_true rfl) rfl ?_
    refine wpL.off rfl rfl rfl (Nat.le_of_ble_eq_true rfl) rfl ?_
    refine wpL.flat [u1, u2, u3, undef, undef, undef, (Value.bool false), (Value.bool true), (Value.bool false), u1, (eN la.length), (Value.bool true), (Value.bool true), undef, undef, undef, (Value.bool true), (Value.bool true), undef, undef, undef, undef, undef, undef, undef, undef, undef, undef, undef, undef, undef, undef, undef, undef, undef, undef, undef, undef, undef, undef, undef, undef, undef, undef, undef, undef, undef, undef, undef, undef, undef, undef, undef, undef, undef, undef, undef, undef, undef, undef, undef, undef, undef, undef, undef, undef, undef, undef, undef, undef, undef, undef, undef, undef, undef, undef, undef, undef, undef, undef, undef, undef, undef, undef, undef] (by kernel_rfl) ?_
    refine wpL.off rfl rfl rfl (Nat.le_of_ble_eq_true rfl) rfl ?_
    refine wpL.is (v := (Value.bool true)) rfl (d_pick (b := true) (v := (Value.bool true)) rfl rfl) ?_
    refine wpL.flat [u1, u2, u3, undef, undef, undef, (Value.bool false), (Value.bool true), (Value.bool false), u1, (eN la.length), (Value.bool true), (Value.bool true), undef, undef, undef, (Value.bool true), (Value.bool true), undef, undef, undef, (Value.bool true), undef, undef, undef, undef, undef, undef, undef, undef, undef, undef, undef, undef, undef, undef, undef, undef, undef, undef, undef, undef, undef, undef, undef, undef, undef, undef, undef, undef, undef, undef, undef, undef, undef, undef, undef, undef, undef, undef, undef, undef, undef, undef, undef, undef, undef, undef, undef, undef, undef, undef, undef, undef, undef, undef, undef, undef, undef, undef, undef, undef, undef, undef, undef] (by kernel_rfl) ?_
    refine wpL.done ?_
    refine then_n ?_
    refine cond_t rfl ?_
    refine wpIn_seq ?_
    refine plain ?_
    refine wpL.is (v := (Value.bool true)) rfl (d_assign (v := (Value.bool true)) rfl) ?_
    refine wpL.flat [u1, u2, u3, undef, undef, undef, (Value.bool true), (Value.bool true), (Value.bool false), u1, (eN la.length), (Value.bool true), (Value.bool true), undef, undef, undef, (Value.bool true), (Value.bool true), undef, undef, undef, (Value.bool true), undef, undef, undef, undef, undef, undef, undef, undef, undef, undef, undef, undef, undef, undef, undef, undef, undef, undef, undef, undef, undef, undef, undef, undef, undef, undef, undef, undef, undef, undef, undef, undef, undef, undef, undef, undef, undef, undef, undef, undef, undef, undef, undef, undef, undef, undef, undef, undef, undef, undef, undef, undef, undef, undef, undef, undef, undef, undef, undef, undef, undef, undef, undef] (by kernel_rfl) ?_
    refine wpL.done ?_
    refine then_n ?_
    refine wpIn_ret ?_
    refine then_r ?_
    refine leave0 (v := (Value.bool true)) (res1 Try.results4 rfl) ?_
    exact ⟨rfl, oW⟩
  · skip
    by_cases k2 : 20 < lb.length
    · skip
      refine plain ?_
      refine wpL.is (v := u1) rfl (d_move (v := u1) rfl) ?_
      refine wpL.is (v := (eN la.length)) rfl (d_lenS rfl Try.underlying23 rfl h1) ?_
      refine wpL.is (v := (Value.bool false)) rfl (n_gtr (a := la.length) (b := 20) rfl rfl (decide_eq_false k1)) ?_
      refine wpL.flat [u1, u2, u3, undef, undef, undef, (Value.bool false), (Value.bool true), (Value.bool false), u1, (eN la.length), (Value.bool false), undef, undef, undef, undef, undef, undef, undef, undef, undef, undef, undef, undef, undef, undef, undef, undef, undef, undef, undef, undef, undef, undef, undef, undef, undef, undef, undef, undef, undef, undef, undef, undef, undef, undef, undef, undef, undef, undef, undef, undef, undef, undef, undef, undef, undef, undef, undef, undef, undef, undef, undef, undef, undef, undef, undef, undef, undef, undef, undef, undef, undef, undef, undef, undef, undef, undef, undef, undef, undef, undef, undef, undef, undef] (by kernel_rfl) ?_
      refine wpL.is (v := (Value.bool false)) rfl (d_move (v := (Value.bool false)) rfl) ?_
      refine wpL.onis (v := u2) rfl rfl rfl (Nat.le_of_ble_eq_true rfl) rfl (d_move (v := u2) rfl) ?_
      refine wpL.onis (v := (eN lb.length)) rfl rfl rfl (Nat.le_of_ble_eq_true rfl) rfl (d_lenS rfl Try.underlying23 rfl h2) ?_
      refine wpL.flat [u1, u2, u3, undef, undef, undef, (Value.bool false), (Value.bool true), (Value.bool false), u1, (eN la.length), (Value.bool false), (Value.bool false), u2, (eN lb.length), undef, undef, undef, undef, undef, undef, undef, undef, undef, undef, undef, undef, undef, undef, undef, undef, undef, undef, undef, undef, undef, undef, undef, undef, undef, undef, undef, undef, undef, undef, undef, undef, undef, undef, undef, undef, undef, undef, undef, undef, undef, undef, undef, undef, undef, undef, undef, undef, undef, undef, undef, undef, undef, undef, undef, undef, undef, undef, undef, undef, undef, undef, undef, undef, undef, undef, undef, undef, undef, undef] (by kernel_rfl) ?_
      refine wpL.onis (v := (Value.bool true)) rfl rfl rfl (Nat.le_of_ble_eq_true rfl) rfl (n_gtr (a := lb.length) (b := 20) rfl rfl (decide_eq_true k2)) ?_
      refine wpL.is (v := (Value.bool true)) rfl (d_pick (b := false) (v := (Value.bool true)) rfl rfl) ?_
      refine wpL.is (v := (Value.bool true)) rfl (d_move (v := (Value.bool true)) rfl) ?_
      refine wpL.flat [u1, u2, u3, undef, undef, undef, (Value.bool false), (Value.bool true), (Value.bool false), u1, (eN la.length), (Value.bool false), (Value.bool false), u2, (eN lb.length), (Value.bool true), (Value.bool true), (Value.bool true), undef, undef, undef, undef, undef, undef, undef, undef, undef, undef, undef, undef, undef, undef, undef, undef, undef, undef, undef, undef, undef, undef, undef, undef, undef, undef, undef, undef, undef, undef, undef, undef, undef, undef, undef, undef, undef, undef, undef, undef, undef, undef, undef, undef, undef, undef, undef, undef, undef, undef, undef, undef, undef, undef, undef, undef, undef, undef, undef, undef, undef, undef, undef, undef, undef, undef, undef] (by kernel_rfl) ?_
      refine wpL.off rfl rfl rfl (Nat.le_of_ble_eq_true rfl) rfl ?_
      refine wpL.off rfl rfl rfl (Nat.le_of_ble_eq_true rfl) rfl ?_
      refine wpL.flat [u1, u2, u3, undef, undef, undef, (Value.bool false), (Value.bool true), (Value.bool false), u1, (eN la.length), (Value.bool false), (Value.bool false), u2, (eN lb.length), (Value.bool true), (Value.bool true), (Value.bool true), undef, undef, undef, undef, undef, undef, undef, undef, undef, undef, undef, undef, undef, undef, undef, undef, undef, undef, undef, undef, undef, undef, undef, undef, undef, undef, undef, undef, undef, undef, undef, undef, undef, undef, undef, undef, undef, undef, undef, undef, undef, undef, undef, undef, undef, undef, undef, undef, undef, undef, undef, undef, undef, undef, undef, undef, undef, undef, undef, undef, undef, undef, undef, undef, undef, undef, undef] (by kernel_rfl) ?_
      refine wpL.off rfl rfl rfl (Nat.le_of_ble_eq_true rfl) rfl ?_
      refine wpL.is (v := (Value.bool true)) rfl (d_pick (b := true) (v := (Value.bool true)) rfl rfl) ?_
      refine wpL.flat [u1, u2, u3, undef, undef, undef, (Value.bool false), (Value.bool true), (Value.bool false), u1, (eN la.length), (Value.bool false), (Value.bool false), u2, (eN lb.length), (Value.bool true), (Value.bool true), (Value.bool true), undef, undef, undef, (Value.bool true), undef, undef, undef, undef, undef, undef, undef, undef, undef, undef, undef, undef, undef, undef, undef, undef, undef, undef, undef, undef, undef, undef, undef, undef, undef, undef, undef, undef, undef, undef, undef, undef, undef, undef, undef, undef, undef, undef, undef, undef, undef, undef, undef, undef, undef, undef, undef, undef, undef, undef, undef, undef, undef, undef, undef, undef, undef, undef, undef, undef, undef, undef, undef] (by kernel_rfl) ?_
      refine wpL.done ?_
      refine then_n ?_
      refine cond_t rfl ?_
      refine wpIn_seq ?_
      refine plain ?_
      refine wpL.is (v := (Value.bool true)) rfl (d_assign (v := (Value.bool true)) rfl) ?_
      refine wpL.flat [u1, u2, u3, undef, undef, undef, (Value.bool true), (Value.bool true), (Value.bool false), u1, (eN la.length), (Value.bool false), (Value.bool false), u2, (eN lb.length), (Value.bool true), (Value.bool true), (Value.bool true), undef, undef, undef, (Value.bool true), undef, undef, undef, undef, undef, undef, undef, undef, undef, undef, undef, undef, undef, undef, undef, undef, undef, undef, undef, undef, undef, undef, undef, undef, undef, undef, undef, undef, undef, undef, undef, undef, undef, undef, undef, undef, undef, undef, undef, undef, undef, undef, undef, undef, undef, undef, undef, undef, undef, undef, undef, undef, undef, undef, undef, undef, undef, undef, undef, undef, undef, undef, undef] (by kernel_rfl) ?_
      refine wpL.done ?_
      refine then_n ?_
      refine wpIn_ret ?_
      refine then_r ?_
      refine leave0 (v := (Value.bool true)) (res1 Try.results4 rfl) ?_
      exact ⟨rfl, oW⟩
    · skip
      refine plain ?_
      refine wpL.is (v := u1) rfl (d_move (v := u1) rfl) ?_
      refine wpL.is (v := (eN la.length)) rfl (d_lenS rfl Try.underlying23 rfl h1) ?_
      refine wpL.is (v := (Value.bool false)) rfl (n_gtr (a := la.length) (b := 20) rfl rfl (decide_eq_false k1)) ?_
      refine wpL.flat [u1, u2, u3, undef, undef, undef, (Value.bool false), (Value.bool true), (Value.bool false), u1, (eN la.length), (Value.bool false), undef, undef, undef, undef, undef, undef, undef, undef, undef, undef, undef, undef, undef, undef, undef, undef, undef, undef, undef, undef, undef, undef, undef, undef, undef, undef, undef, undef, undef, undef, undef, undef, undef, undef, undef, undef, undef, undef, undef, undef, undef, undef, undef, undef, undef, undef, undef, undef, undef, undef, undef, undef, undef, undef, undef, undef, undef, undef, undef, undef, undef, undef, undef, undef, undef, undef, undef, undef, undef, undef, undef, undef, undef] (by kernel_rfl) ?_
      refine wpL.is (v := (Value.bool false)) rfl (d_move (v := (Value.bool false)) rfl) ?_
      refine wpL.onis (v := u2) rfl rfl rfl (Nat.le_of_ble_eq_true rfl) rfl (d_move (v := u2) rfl) ?_
      refine wpL.onis (v := (eN lb.length)) rfl rfl rfl (Nat.le_of_ble_eq_true rfl) rfl (d_lenS rfl Try.underlying23 rfl h2) ?_
      refine wpL.flat [u1, u2, u3, undef, undef, undef, (Value.bool false), (Value.bool true), (Value.bool false), u1, (eN la.length), (Value.bool false), (Value.bool false), u2, (eN lb.length), undef, undef, undef, undef, undef, undef, undef, undef, undef, undef, undef, undef, undef, undef, undef, undef, undef, undef, undef, undef, undef, undef, undef, undef, undef, undef, undef, undef, undef, undef, undef, undef, undef, undef, undef, undef, undef, undef, undef, undef, undef, undef, undef, undef, undef, undef, undef, undef, undef, undef, undef, undef, undef, undef, undef, undef, undef, undef, undef, undef, undef, undef, undef, undef, undef, undef, undef, undef, undef, undef] (by kernel_rfl) ?_
      refine wpL.onis (v := (Value.bool false)) rfl rfl rfl (Nat.le_of_ble_eq_true rfl) rfl (n_gtr (a := lb.length) (b := 20) rfl rfl (decide_eq_false k2)) ?_
      refine wpL.is (v := (Value.bool false)) rfl (d_pick (b := false) (v := (Value.bool false)) rfl rfl) ?_
      refine wpL.is (v := (Value.bool false)) rfl (d_move (v := (Value.bool false)) rfl) ?_
      refine wpL.flat [u1, u2, u3, undef, undef, undef, (Value.bool false), (Value.bool true), (Value.bool false), u1, (eN la.length), (Value.bool false), (Value.bool false), u2, (eN lb.length), (Value.bool false), (Value.bool false), (Value.bool false), undef, undef, undef, undef, undef, undef, undef, undef, undef, undef, undef, undef, undef, undef, undef, undef, undef, undef, undef, undef, undef, undef, undef, undef, undef, undef, undef, undef, undef, undef, undef, undef, undef, undef, undef, undef, undef, undef, undef, undef, undef, undef, undef, undef, undef, undef, undef, undef, undef, undef, undef, undef, undef, undef, undef, undef, undef, undef, undef, undef, undef, undef, undef, undef, undef, undef, undef] (by kernel_rfl) ?_
      refine wpL.onis (v := u3) rfl rfl rfl (Nat.le_of_ble_eq_true rfl) rfl (d_move (v := u3) rfl) ?_
      refine wpL.onis (v := (eN lc.length)) rfl rfl rfl (Nat.le_of_ble_eq_true rfl) rfl (d_lenS rfl Try.underlying23 rfl h3) ?_
      refine wpL.onis (v := (Value.bool (decide (20 < lc.length)))) rfl rfl rfl (Nat.le_of_ble_eq_true rfl) rfl (n_gtr (a := lc.length) (b := 20) rfl rfl rfl) ?_
      refine wpL.flat [u1, u2, u3, undef, undef, undef, (Value.bool false), (Value.bool true), (Value.bool false), u1, (eN la.length), (Value.bool false), (Value.bool false), u2, (eN lb.length), (Value.bool false), (Value.bool false), (Value.bool false), u3, (eN lc.length), (Value.bool (decide (20 < lc.length))), undef, undef, undef, undef, undef, undef, undef, undef, undef, undef, undef, undef, undef, undef, undef, undef, undef, undef, undef, undef, undef, undef, undef, undef, undef, undef, undef, undef, undef, undef, undef, undef, undef, undef, undef, undef, undef, undef, undef, undef, undef, undef, undef, undef, undef, undef, undef, undef, undef, undef, undef, undef, undef, undef, undef, undef, undef, undef, undef, undef, undef, undef, undef, undef] (by kernel_rfl) ?_
      refine wpL.is (v := (Value.bool (decide (20 < lc.length)))) rfl (d_pick (b := false) (v := (Value.bool (decide (20 < lc.length)))) rfl rfl) ?_
      refine wpL.flat [u1, u2, u3, undef, undef, undef, (Value.bool false), (Value.bool true), (Value.bool false), u1, (eN la.length), (Value.bool false), (Value.bool false), u2, (eN lb.length), (Value.bool false), (Value.bool false), (Value.bool false), u3, (eN lc.length), (Value.bool (decide (20 < lc.length))), (Value.bool (decide (20 < lc.length))), undef, undef, undef, undef, undef, undef, undef, undef, undef, undef, undef, undef, undef, undef, undef, undef, undef, undef, undef, undef, undef, undef, undef, undef, undef, undef, undef, undef, undef, undef, undef, undef, undef, undef, undef, undef, undef, undef, undef, undef, undef, undef, undef, undef, undef, undef, undef, undef, undef, undef, undef, undef, undef, undef, undef, undef, undef, undef, undef, undef, undef, undef, undef] (by kernel_rfl) ?_
      refine wpL.done ?_
      refine then_n ?_
      refine cond_if rfl (fun k3 => ?_) (fun k3 => ?_)
      · skip
        refine wpIn_seq ?_
        refine plain ?_
        refine wpL.is (v := (Value.bool true)) rfl (d_assign (v := (Value.bool true)) rfl) ?_
        refine wpL.flat [u1, u2, u3, undef, undef, undef, (Value.bool true), (Value.bool true), (Value.bool false), u1, (eN la.length), (Value.bool false), (Value.bool false), u2, (eN lb.length), (Value.bool false), (Value.bool false), (Value.bool false), u3, (eN lc.length), (Value.bool (decide (20 < lc.length))), (Value.bool (decide (20 < lc.length))), undef, undef, undef, undef, undef, undef, undef, undef, undef, undef, undef, undef, undef, undef, undef, undef, undef, undef, undef, undef, undef, undef, undef, undef, undef, undef, undef, undef, undef, undef, undef, undef, undef, undef, undef, undef, undef, undef, undef, undef, undef, undef, undef, undef, undef, undef, undef, undef, undef, undef, undef, undef, undef, undef, undef, undef, undef, undef, undef, undef, undef, undef, undef] (by kernel_rfl) ?_
        refine wpL.done ?_
        refine then_n ?_
        refine wpIn_ret ?_
        refine then_r ?_
        refine leave0 (v := (Value.bool true)) (res1 Try.results4 rfl) ?_
        exact ⟨rfl, oW⟩
      · skip
        refine wpIn_skip ?_
        refine then_n ?_
        refine wpIn_seq ?_
        refine drawn' (O := No) (n := 64) [0, 0, 3, 0, 15, 31, 0, 0, 0, 415, 991, 2015, 4095, 8191, 16383, 16383, 16383, 114687, 262143, 524287, 16383, 16383, 3670015, 16383, 16383, 33030143, 66584575, 133693439, 268435455, 536870911, 1073741823, 2147483647, 2147483647, 8589934591, 17179869183, 2147483647, 2147483647, 120259084287, 257698037759, 549755813887, 1099511627775, 2199023255551, 4398046511103, 4398046511103, 17592186044415, 35184372088831, 70368744177663, 140737488355327, 281474976710655, 562949953421311, 1125899906842623, 2251799813685247, 562949953421311, 6755399441055743, 15762598695796735, 36028797018963967, 72057594037927935, 144115188075855871, 288230376151711743, 576460752303423487, 1152921504606846975, 2305843009213693951, 4611686018427387903, 9223372036854775807] [(0, 22), (1, 23), (2, 24), (3, 25), (4, 26), (5, 27), (6, 28), (7, 29), (8, 30), (9, 31), (10, 32), (11, 33), (12, 34), (13, 35), (14, 36), (15, 37), (16, 38), (17, 39), (18, 40), (19, 41), (20, 42), (21, 43), (22, 44), (23, 45), (24, 46), (25, 47), (26, 48), (27, 49), (28, 50), (29, 51), (30, 52), (31, 53), (32, 54), (33, 55), (34, 56), (35, 57), (36, 58), (37, 59), (38, 60), (39, 61), (40, 62), (41, 63), (42, 64), (43, 65), (44, 66), (45, 67), (46, 68), (47, 69), (48, 70), (49, 71), (50, 72), (51, 73), (52, 74), (53, 75), (54, 76), (55, 77), (56, 78), (57, 79), (58, 80), (59, 81), (60, 82), (61, 83), (62, 84), (63, 6)] [0, 1, 2, 3, 4, 5, 6, 7, 8, 9, 10, 11, 12, 13, 14, 15, 16, 17, 18, 19, 20, 21, 22, 23, 24, 25, 26, 27, 28, 29, 30, 31, 32, 33, 34, 35, 36, 37, 38, 39, 40, 41, 42, 43, 44, 45, 46, 47, 48, 49, 50, 51, 52, 53, 54, 55, 56, 57, 58, 59, 60, 61, 62, 63] [] (fun i_ => ([RF.is No u1, RF.is No u2, RF.ps No (Old W.heap.size) (Seq kB (mulP la lb)) no_any, RF.is No u3, RF.ps No (Old W.heap.size) (Seq kB (mulP (mulP la lb) lc)) no_any, RF.is No (Value.string (strOf (mulP (mulP la lb) lc))), RF.is No u1, RF.is No u2, RF.is No u3, RF.ps No (Old W.heap.size) (Seq kB (mulP lb lc)) no_any, RF.ps No (Old W.heap.size) (Seq kB (mulP la (mulP lb lc))) no_any, RF.is No (Value.string (strOf (mulP la (mulP lb lc)))), RF.is No (Value.bool true), RF.is No (Value.bool true), RF.is No u1, RF.is No u2, RF.is No u3, RF.ps No (Old W.heap.size) (Seq kB (addP lb lc)) no_any, RF.ps No (Old W.heap.size) (Seq kB (mulP la (addP lb lc))) no_any, RF.is No (Value.string (strOf (mulP la (addP lb lc)))), RF.is No u1, RF.is No u2, RF.ps No (Old W.heap.size) (Seq kB (mulP la lb)) no_any, RF.is No u1, RF.is No u3, RF.ps No (Old W.heap.size) (Seq kB (mulP la lc)) no_any, RF.ps No (Old W.heap.size) (Seq kB (addP (mulP la lb) (mulP la lc))) no_any, RF.is No (Value.string (strOf (addP (mulP la lb) (mulP la lc)))), RF.is No (Value.bool true), RF.is No (Value.bool true), RF.is No (Value.bool true), RF.is No u1, RF.is No u2, RF.ps No (Old W.heap.size) (Seq kB (mulP la lb)) no_any, RF.is No (Value.string (strOf (mulP la lb))), RF.is No u2, RF.is No u1, RF.ps No (Old W.heap.size) (Seq kB (mulP lb la)) no_any, RF.is No (Value.string (strOf (mulP lb la))), RF.is No (Value.bool true), RF.is No (Value.bool true), RF.is No (Value.bool true), RF.is No u1, RF.is No u1, RF.ps No (Old W.heap.size) (Seq kB (addP la la)) no_any, RF.is No (eN ((addP la la).length)), RF.is No (Value.bool true), RF.is No (Value.bool true), RF.is No (Value.bool true), RF.is No u1, RF.ps No (Old W.heap.size) (Seq kB (addP la [])) no_any, RF.is No (Value.string (strOf (addP la []))), RF.is No u1, RF.ps No (Old W.heap.size) (Seq kB (trimL la)) no_any, RF.is No (Value.string (strOf (trimL la))), RF.is No (Value.bool true), RF.is No (Value.bool true), RF.is No (Value.bool true), RF.is No u1, RF.ps No (Old W.heap.size) (Seq kB (mulP la [])) no_any, RF.is No (eN ((mulP la []).length)), RF.is No (Value.bool true), RF.is No (Value.bool true), RF.is No (Value.bool true)] : List (RF No)).getD i_ (RF.any No)) (fun _ w_ => True) (fun v3 => [u1, u2, u3, undef, undef, undef, (v3 63), (Value.bool true), (Value.bool false), u1, (eN la.length), (Value.bool false), (Value.bool false), u2, (eN lb.length), (Value.bool false), (Value.bool false), (Value.bool false), u3, (eN lc.length), (Value.bool (decide (20 < lc.length))), (Value.bool (decide (20 < lc.length))), (v3 0), (v3 1), (v3 2), (v3 3), (v3 4), (v3 5), (v3 6), (v3 7), (v3 8), (v3 9), (v3 10), (v3 11), (v3 12), (v3 13), (v3 14), (v3 15), (v3 16), (v3 17), (v3 18), (v3 19), (v3 20), (v3 21), (v3 22), (v3 23), (v3 24), (v3 25), (v3 26), (v3 27), (v3 28), (v3 29), (v3 30), (v3 31), (v3 32), (v3 33), (v3 34), (v3 35), (v3 36), (v3 37), (v3 38), (v3 39), (v3 40), (v3 41), (v3 42), (v3 43), (v3 44), (v3 45), (v3 46), (v3 47), (v3 48), (v3 49), (v3 50), (v3 51), (v3 52), (v3 53), (v3 54), (v3 55), (v3 56), (v3 57), (v3 58), (v3 59), (v3 60), (v3 61), (v3 62)]) s_mx (by kernel_rfl) rfl (by decide) (by rfl) (fun v_ => by kernel_rfl) (fun _ => fun _ _ _ _ => trivial) trivial ?_ ?_ ?_
        · skip
          refine ls_cons ?_ ?_
          · intro v3 lo hi w_ k_ hO hd _ _ hk_ _ hR hold
            clear hd hold
            refine ⟨_, rfl, gd rfl ?_⟩
            exact Does.is (d_move (v := u1) rfl)
          refine ls_cons ?_ ?_
          · intro v3 lo hi w_ k_ hO hd _ _ hk_ _ hR hold
            clear hd hold
            refine ⟨_, rfl, gd rfl ?_⟩
            exact Does.is (d_move (v := u2) rfl)
          refine ls_cons ?_ ?_
          · intro v3 lo hi w_ k_ hO hd _ _ hk_ _ hR hold
            have e0 : v3 0 = u1 := hd 0 (by kernel_rfl)
            have e1 : v3 1 = u2 := hd 1 (by kernel_rfl)
            clear hd hold
            refine ⟨_, rfl, gd rfl ?_⟩
            refine Does.mono (R := ROw 5 eB (mulP la lb) w_) ?_ (fun u w' h => ⟨(h.ps).1.less (old_old (Nat.le_trans oW.size hO.size)), (h.ps).2⟩)
            exact d_call (xl := [.tmp 22, .tmp 23]) (al := [u1, u2]) Try.func16 (by kernel_rfl) rfl (show ([(v3 0), (v3 1)] : List Value) = [u1, u2] from by rw [e0, e1]) rfl (mul_ok la lb u1 u2 _ (Ps.no (h1.step hO no_any)) (Ps.no (h2.step hO no_any)) (by first | omega | (simp; done) | (simp; omega)) (by first | omega | (simp; done) | (simp; omega)))
          refine ls_cons ?_ ?_
          · intro v3 lo hi w_ k_ hO hd _ _ hk_ _ hR hold
            clear hd hold
            refine ⟨_, rfl, gd rfl ?_⟩
            exact Does.is (d_move (v := u3) rfl)
          refine ls_cons ?_ ?_
          · intro v3 lo hi w_ k_ hO hd _ _ hk_ _ hR hold
            have d2 : Ps (Old W.heap.size) (Seq kB (mulP la lb) (v3 2)) w_ := hd 2 (by kernel_rfl)
            have e3 : v3 3 = u3 := hd 3 (by kernel_rfl)
            clear hd hold
            refine ⟨_, rfl, gd rfl ?_⟩
            refine Does.mono (R := ROw 5 eB (mulP (mulP la lb) lc) w_) ?_ (fun u w' h => ⟨(h.ps).1.less (old_old (Nat.le_trans oW.size hO.size)), (h.ps).2⟩)
            exact d_call (xl := [.tmp 24, .tmp 25]) (al := [(v3 2), u3]) Try.func16 (by kernel_rfl) rfl (show ([(v3 2), (v3 3)] : List Value) = [(v3 2), u3] from by rw [e3]) rfl (mul_ok (mulP la lb) lc (v3 2) u3 _ (Ps.no d2) (Ps.no (h3.step hO no_any)) (by have := mulP_len la lb; first | omega | (simp; done) | (simp; omega)) (by first | omega | (simp; done) | (simp; omega)))
          refine ls_cons ?_ ?_
          · intro v3 lo hi w_ k_ hO hd _ _ hk_ _ hR hold
            have d4 : Ps (Old W.heap.size) (Seq kB (mulP (mulP la lb) lc) (v3 4)) w_ := hd 4 (by kernel_rfl)
            clear hd hold
            refine ⟨_, rfl, gd rfl ?_⟩
            exact Does.is (d_str Try.underlying23 Try.underlying5 Try.underlying9 rfl d4)
          refine ls_cons ?_ ?_
          · intro v3 lo hi w_ k_ hO hd _ _ hk_ _ hR hold
            clear hd hold
            refine ⟨_, rfl, gd rfl ?_⟩
            exact Does.is (d_move (v := u1) rfl)
          refine ls_cons ?_ ?_
          · intro v3 lo hi w_ k_ hO hd _ _ hk_ _ hR hold
            clear hd hold
            refine ⟨_, rfl, gd rfl ?_⟩
            exact Does.is (d_move (v := u2) rfl)
          refine ls_cons ?_ ?_
          · intro v3 lo hi w_ k_ hO hd _ _ hk_ _ hR hold
            clear hd hold
            refine ⟨_, rfl, gd rfl ?_⟩
            exact Does.is (d_move (v := u3) rfl)
          refine ls_cons ?_ ?_
          · intro v3 lo hi w_ k_ hO hd _ _ hk_ _ hR hold
            have e7 : v3 7 = u2 := hd 7 (by kernel_rfl)
            have e8 : v3 8 = u3 := hd 8 (by kernel_rfl)
            clear hd hold
            refine ⟨_, rfl, gd rfl ?_⟩
            refine Does.mono (R := ROw 5 eB (mulP lb lc) w_) ?_ (fun u w' h => ⟨(h.ps).1.less (old_old (Nat.le_trans oW.size hO.size)), (h.ps).2⟩)
            exact d_call (xl := [.tmp 29, .tmp 30]) (al := [u2, u3]) Try.func16 (by kernel_rfl) rfl (show ([(v3 7), (v3 8)] : List Value) = [u2, u3] from by rw [e7, e8]) rfl (mul_ok lb lc u2 u3 _ (Ps.no (h2.step hO no_any)) (Ps.no (h3.step hO no_any)) (by first | omega | (simp; done) | (simp; omega)) (by first | omega | (simp; done) | (simp; omega)))
          refine ls_cons ?_ ?_
          · intro v3 lo hi w_ k_ hO hd _ _ hk_ _ hR hold
            have e6 : v3 6 = u1 := hd 6 (by kernel_rfl)
            have d9 : Ps (Old W.heap.size) (Seq kB (mulP lb lc) (v3 9)) w_ := hd 9 (by kernel_rfl)
            clear hd hold
            refine ⟨_, rfl, gd rfl ?_⟩
            refine Does.mono (R := ROw 5 eB (mulP la (mulP lb lc)) w_) ?_ (fun u w' h => ⟨(h.ps).1.less (old_old (Nat.le_trans oW.size hO.size)), (h.ps).2⟩)
            exact d_call (xl := [.tmp 28, .tmp 31]) (al := [u1, (v3 9)]) Try.func16 (by kernel_rfl) rfl (show ([(v3 6), (v3 9)] : List Value) = [u1, (v3 9)] from by rw [e6]) rfl (mul_ok la (mulP lb lc) u1 (v3 9) _ (Ps.no (h1.step hO no_any)) (Ps.no d9) (by first | omega | (simp; done) | (simp; omega)) (by have := mulP_len lb lc; first | omega | (simp; done) | (simp; omega)))
          refine ls_cons ?_ ?_
          · intro v3 lo hi w_ k_ hO hd _ _ hk_ _ hR hold
            have d10 : Ps (Old W.heap.size) (Seq kB (mulP la (mulP lb lc)) (v3 10)) w_ := hd 10 (by kernel_rfl)
            clear hd hold
            refine ⟨_, rfl, gd rfl ?_⟩
            exact Does.is (d_str Try.underlying23 Try.underlying5 Try.underlying9 rfl d10)
          refine ls_cons ?_ ?_
          · intro v3 lo hi w_ k_ hO hd _ _ hk_ _ hR hold
            have e11 : v3 11 = (Value.string (strOf (mulP la (mulP lb lc)))) := hd 11 (by kernel_rfl)
            have e5 : v3 5 = (Value.string (strOf (mulP (mulP la lb) lc))) := hd 5 (by kernel_rfl)
            clear hd hold
            refine ⟨_, rfl, gd rfl ?_⟩
            exact Does.is (d_seql (a := (mulP (mulP la lb) lc)) (c := (mulP la (mulP lb lc))) e5 e11 (decide_eq_true (mulP_assoc la lb lc)))
          refine ls_cons ?_ ?_
          · intro v3 lo hi w_ k_ hO hd _ _ hk_ _ hR hold
            have e12 : v3 12 = (Value.bool true) := hd 12 (by kernel_rfl)
            clear hd hold
            refine ⟨_, rfl, gd rfl ?_⟩
            exact Does.is (d_move (v := (Value.bool true)) e12)
          refine ls_cons ?_ ?_
          · intro v3 lo hi w_ k_ hO hd _ _ hk_ _ hR hold
            have e13 : v3 13 = (Value.bool true) := hd 13 (by kernel_rfl)
            clear hd hold
            refine ⟨_, rfl, gd_on rfl rfl rfl (Nat.le_of_ble_eq_true rfl) e13 ?_⟩
            exact Does.is (d_move (v := u1) rfl)
          refine ls_cons ?_ ?_
          · intro v3 lo hi w_ k_ hO hd _ _ hk_ _ hR hold
            have e13 : v3 13 = (Value.bool true) := hd 13 (by kernel_rfl)
            clear hd hold
            refine ⟨_, rfl, gd_on rfl rfl rfl (Nat.le_of_ble_eq_true rfl) e13 ?_⟩
            exact Does.is (d_move (v := u2) rfl)
          refine ls_cons ?_ ?_
          · intro v3 lo hi w_ k_ hO hd _ _ hk_ _ hR hold
            have e13 : v3 13 = (Value.bool true) := hd 13 (by kernel_rfl)
            clear hd hold
            refine ⟨_, rfl, gd_on rfl rfl rfl (Nat.le_of_ble_eq_true rfl) e13 ?_⟩
            exact Does.is (d_move (v := u3) rfl)
          refine ls_cons ?_ ?_
          · intro v3 lo hi w_ k_ hO hd _ _ hk_ _ hR hold
            have e13 : v3 13 = (Value.bool true) := hd 13 (by kernel_rfl)
            have e15 : v3 15 = u2 := hd 15 (by kernel_rfl)
            have e16 : v3 16 = u3 := hd 16 (by kernel_rfl)
            clear hd hold
            refine ⟨_, rfl, gd_on rfl rfl rfl (Nat.le_of_ble_eq_true rfl) e13 ?_⟩
            refine Does.mono (R := ROw 5 eB (addP lb lc) w_) ?_ (fun u w' h => ⟨(h.ps).1.less (old_old (Nat.le_trans oW.size hO.size)), (h.ps).2⟩)
            exact d_call (xl := [.tmp 37, .tmp 38]) (al := [u2, u3]) Try.func17 (by kernel_rfl) rfl (show ([(v3 15), (v3 16)] : List Value) = [u2, u3] from by rw [e15, e16]) rfl (add_ok lb lc u2 u3 _ (Ps.no (h2.step hO no_any)) (Ps.no (h3.step hO no_any)) (by first | omega | (simp; done) | (simp; omega)) (by first | omega | (simp; done) | (simp; omega)))
          refine ls_cons ?_ ?_
          · intro v3 lo hi w_ k_ hO hd _ _ hk_ _ hR hold
            have e13 : v3 13 = (Value.bool true) := hd 13 (by kernel_rfl)
            have e14 : v3 14 = u1 := hd 14 (by kernel_rfl)
            have d17 : Ps (Old W.heap.size) (Seq kB (addP lb lc) (v3 17)) w_ := hd 17 (by kernel_rfl)
            clear hd hold
            refine ⟨_, rfl, gd_on rfl rfl rfl (Nat.le_of_ble_eq_true rfl) e13 ?_⟩
            refine Does.mono (R := ROw 5 eB (mulP la (addP lb lc)) w_) ?_ (fun u w' h => ⟨(h.ps).1.less (old_old (Nat.le_trans oW.size hO.size)), (h.ps).2⟩)
            exact d_call (xl := [.tmp 36, .tmp 39]) (al := [u1, (v3 17)]) Try.func16 (by kernel_rfl) rfl (show ([(v3 14), (v3 17)] : List Value) = [u1, (v3 17)] from by rw [e14]) rfl (mul_ok la (addP lb lc) u1 (v3 17) _ (Ps.no (h1.step hO no_any)) (Ps.no d17) (by first | omega | (simp; done) | (simp; omega)) (by have := addP_len lb lc; first | omega | (simp; done) | (simp; omega)))
          refine ls_cons ?_ ?_
          · intro v3 lo hi w_ k_ hO hd _ _ hk_ _ hR hold
            have e13 : v3 13 = (Value.bool true) := hd 13 (by kernel_rfl)
            have d18 : Ps (Old W.heap.size) (Seq kB (mulP la (addP lb lc)) (v3 18)) w_ := hd 18 (by kernel_rfl)
            clear hd hold
            refine ⟨_, rfl, gd_on rfl rfl rfl (Nat.le_of_ble_eq_true rfl) e13 ?_⟩
            exact Does.is (d_str Try.underlying23 Try.underlying5 Try.underlying9 rfl d18)
          refine ls_cons ?_ ?_
          · intro v3 lo hi w_ k_ hO hd _ _ hk_ _ hR hold
            have e13 : v3 13 = (Value.bool true) := hd 13 (by kernel_rfl)
            clear hd hold
            refine ⟨_, rfl, gd_on rfl rfl rfl (Nat.le_of_ble_eq_true rfl) e13 ?_⟩
            exact Does.is (d_move (v := u1) rfl)
          refine ls_cons ?_ ?_
          · intro v3 lo hi w_ k_ hO hd _ _ hk_ _ hR hold
            have e13 : v3 13 = (Value.bool true) := hd 13 (by kernel_rfl)
            clear hd hold
            refine ⟨_, rfl, gd_on rfl rfl rfl (Nat.le_of_ble_eq_true rfl) e13 ?_⟩
            exact Does.is (d_move (v := u2) rfl)
          refine ls_cons ?_ ?_
          · intro v3 lo hi w_ k_ hO hd _ _ hk_ _ hR hold
            have e13 : v3 13 = (Value.bool true) := hd 13 (by kernel_rfl)
            have e20 : v3 20 = u1 := hd 20 (by kernel_rfl)
            have e21 : v3 21 = u2 := hd 21 (by kernel_rfl)
            clear hd hold
            refine ⟨_, rfl, gd_on rfl rfl rfl (Nat.le_of_ble_eq_true rfl) e13 ?_⟩
            refine Does.mono (R := ROw 5 eB (mulP la lb) w_) ?_ (fun u w' h => ⟨(h.ps).1.less (old_old (Nat.le_trans oW.size hO.size)), (h.ps).2⟩)
            exact d_call (xl := [.tmp 42, .tmp 43]) (al := [u1, u2]) Try.func16 (by kernel_rfl) rfl (show ([(v3 20), (v3 21)] : List Value) = [u1, u2] from by rw [e20, e21]) rfl (mul_ok la lb u1 u2 _ (Ps.no (h1.step hO no_any)) (Ps.no (h2.step hO no_any)) (by first | omega | (simp; done) | (simp; omega)) (by first | omega | (simp; done) | (simp; omega)))
          refine ls_cons ?_ ?_
          · intro v3 lo hi w_ k_ hO hd _ _ hk_ _ hR hold
            have e13 : v3 13 = (Value.bool true) := hd 13 (by kernel_rfl)
            clear hd hold
            refine ⟨_, rfl, gd_on rfl rfl rfl (Nat.le_of_ble_eq_true rfl) e13 ?_⟩
            exact Does.is (d_move (v := u1) rfl)
          refine ls_cons ?_ ?_
          · intro v3 lo hi w_ k_ hO hd _ _ hk_ _ hR hold
            have e13 : v3 13 = (Value.bool true) := hd 13 (by kernel_rfl)
            clear hd hold
            refine ⟨_, rfl, gd_on rfl rfl rfl (Nat.le_of_ble_eq_true rfl) e13 ?_⟩
            exact Does.is (d_move (v := u3) rfl)
          refine ls_cons ?_ ?_
          · intro v3 lo hi w_ k_ hO hd _ _ hk_ _ hR hold
            have e13 : v3 13 = (Value.bool true) := hd 13 (by kernel_rfl)
            have e23 : v3 23 = u1 := hd 23 (by kernel_rfl)
            have e24 : v3 24 = u3 := hd 24 (by kernel_rfl)
            clear hd hold
            refine ⟨_, rfl, gd_on rfl rfl rfl (Nat.le_of_ble_eq_true rfl) e13 ?_⟩
            refine Does.mono (R := ROw 5 eB (mulP la lc) w_) ?_ (fun u w' h => ⟨(h.ps).1.less (old_old (Nat.le_trans oW.size hO.size)), (h.ps).2⟩)
            exact d_call (xl := [.tmp 45, .tmp 46]) (al := [u1, u3]) Try.func16 (by kernel_rfl) rfl (show ([(v3 23), (v3 24)] : List Value) = [u1, u3] from by rw [e23, e24]) rfl (mul_ok la lc u1 u3 _ (Ps.no (h1.step hO no_any)) (Ps.no (h3.step hO no_any)) (by first | omega | (simp; done) | (simp; omega)) (by first | omega | (simp; done) | (simp; omega)))
          refine ls_cons ?_ ?_
          · intro v3 lo hi w_ k_ hO hd _ _ hk_ _ hR hold
            have e13 : v3 13 = (Value.bool true) := hd 13 (by kernel_rfl)
            have d22 : Ps (Old W.heap.size) (Seq kB (mulP la lb) (v3 22)) w_ := hd 22 (by kernel_rfl)
            have d25 : Ps (Old W.heap.size) (Seq kB (mulP la lc) (v3 25)) w_ := hd 25 (by kernel_rfl)
            clear hd hold
            refine ⟨_, rfl, gd_on rfl rfl rfl (Nat.le_of_ble_eq_true rfl) e13 ?_⟩
            refine Does.mono (R := ROw 5 eB (addP (mulP la lb) (mulP la lc)) w_) ?_ (fun u w' h => ⟨(h.ps).1.less (old_old (Nat.le_trans oW.size hO.size)), (h.ps).2⟩)
            exact d_call (xl := [.tmp 44, .tmp 47]) (al := [(v3 22), (v3 25)]) Try.func17 (by kernel_rfl) rfl rfl rfl (add_ok (mulP la lb) (mulP la lc) (v3 22) (v3 25) _ (Ps.no d22) (Ps.no d25) (by have := mulP_len la lb; first | omega | (simp; done) | (simp; omega)) (by have := mulP_len la lc; first | omega | (simp; done) | (simp; omega)))
          refine ls_cons ?_ ?_
          · intro v3 lo hi w_ k_ hO hd _ _ hk_ _ hR hold
            have e13 : v3 13 = (Value.bool true) := hd 13 (by kernel_rfl)
            have d26 : Ps (Old W.heap.size) (Seq kB (addP (mulP la lb) (mulP la lc)) (v3 26)) w_ := hd 26 (by kernel_rfl)
            clear hd hold
            refine ⟨_, rfl, gd_on rfl rfl rfl (Nat.le_of_ble_eq_true rfl) e13 ?_⟩
            exact Does.is (d_str Try.underlying23 Try.underlying5 Try.underlying9 rfl d26)
          refine ls_cons ?_ ?_
          · intro v3 lo hi w_ k_ hO hd _ _ hk_ _ hR hold
            have e13 : v3 13 = (Value.bool true) := hd 13 (by kernel_rfl)
            have e19 : v3 19 = (Value.string (strOf (mulP la (addP lb lc)))) := hd 19 (by kernel_rfl)
            have e27 : v3 27 = (Value.string (strOf (addP (mulP la lb) (mulP la lc)))) := hd 27 (by kernel_rfl)
            clear hd hold
            refine ⟨_, rfl, gd_on rfl rfl rfl (Nat.le_of_ble_eq_true rfl) e13 ?_⟩
            exact Does.is (d_seql (a := (mulP la (addP lb lc))) (c := (addP (mulP la lb) (mulP la lc))) e19 e27 (decide_eq_true (mulP_addP la lb lc)))
          refine ls_cons ?_ ?_
          · intro v3 lo hi w_ k_ hO hd _ _ hk_ _ hR hold
            have e13 : v3 13 = (Value.bool true) := hd 13 (by kernel_rfl)
            have e28 : v3 28 = (Value.bool true) := hd 28 (by kernel_rfl)
            clear hd hold
            refine ⟨_, rfl, gd rfl ?_⟩
            exact Does.is (d_pick (b := true) (v := (Value.bool true)) e13 e28)
          refine ls_cons ?_ ?_
          · intro v3 lo hi w_ k_ hO hd _ _ hk_ _ hR hold
            have e29 : v3 29 = (Value.bool true) := hd 29 (by kernel_rfl)
            clear hd hold
            refine ⟨_, rfl, gd rfl ?_⟩
            exact Does.is (d_move (v := (Value.bool true)) e29)
          refine ls_cons ?_ ?_
          · intro v3 lo hi w_ k_ hO hd _ _ hk_ _ hR hold
            have e30 : v3 30 = (Value.bool true) := hd 30 (by kernel_rfl)
            clear hd hold
            refine ⟨_, rfl, gd_on rfl rfl rfl (Nat.le_of_ble_eq_true rfl) e30 ?_⟩
            exact Does.is (d_move (v := u1) rfl)
          refine ls_cons ?_ ?_
          · intro v3 lo hi w_ k_ hO hd _ _ hk_ _ hR hold
            have e30 : v3 30 = (Value.bool true) := hd 30 (by kernel_rfl)
            clear hd hold
            refine ⟨_, rfl, gd_on rfl rfl rfl (Nat.le_of_ble_eq_true rfl) e30 ?_⟩
            exact Does.is (d_move (v := u2) rfl)
          refine ls_cons ?_ ?_
          · intro v3 lo hi w_ k_ hO hd _ _ hk_ _ hR hold
            have e30 : v3 30 = (Value.bool true) := hd 30 (by kernel_rfl)
            have e31 : v3 31 = u1 := hd 31 (by kernel_rfl)
            have e32 : v3 32 = u2 := hd 32 (by kernel_rfl)
            clear hd hold
            refine ⟨_, rfl, gd_on rfl rfl rfl (Nat.le_of_ble_eq_true rfl) e30 ?_⟩
            refine Does.mono (R := ROw 5 eB (mulP la lb) w_) ?_ (fun u w' h => ⟨(h.ps).1.less (old_old (Nat.le_trans oW.size hO.size)), (h.ps).2⟩)
            exact d_call (xl := [.tmp 53, .tmp 54]) (al := [u1, u2]) Try.func16 (by kernel_rfl) rfl (show ([(v3 31), (v3 32)] : List Value) = [u1, u2] from by rw [e31, e32]) rfl (mul_ok la lb u1 u2 _ (Ps.no (h1.step hO no_any)) (Ps.no (h2.step hO no_any)) (by first | omega | (simp; done) | (simp; omega)) (by first | omega | (simp; done) | (simp; omega)))
          refine ls_cons ?_ ?_
          · intro v3 lo hi w_ k_ hO hd _ _ hk_ _ hR hold
            have e30 : v3 30 = (Value.bool true) := hd 30 (by kernel_rfl)
            have d33 : Ps (Old W.heap.size) (Seq kB (mulP la lb) (v3 33)) w_ := hd 33 (by kernel_rfl)
            clear hd hold
            refine ⟨_, rfl, gd_on rfl rfl rfl (Nat.le_of_ble_eq_true rfl) e30 ?_⟩
            exact Does.is (d_str Try.underlying23 Try.underlying5 Try.underlying9 rfl d33)
          refine ls_cons ?_ ?_
          · intro v3 lo hi w_ k_ hO hd _ _ hk_ _ hR hold
            have e30 : v3 30 = (Value.bool true) := hd 30 (by kernel_rfl)
            clear hd hold
            refine ⟨_, rfl, gd_on rfl rfl rfl (Nat.le_of_ble_eq_true rfl) e30 ?_⟩
            exact Does.is (d_move (v := u2) rfl)
          refine ls_cons ?_ ?_
          · intro v3 lo hi w_ k_ hO hd _ _ hk_ _ hR hold
            have e30 : v3 30 = (Value.bool true) := hd 30 (by kernel_rfl)
            clear hd hold
            refine ⟨_, rfl, gd_on rfl rfl rfl (Nat.le_of_ble_eq_true rfl) e30 ?_⟩
            exact Does.is (d_move (v := u1) rfl)
          refine ls_cons ?_ ?_
          · intro v3 lo hi w_ k_ hO hd _ _ hk_ _ hR hold
            have e30 : v3 30 = (Value.bool true) := hd 30 (by kernel_rfl)
            have e35 : v3 35 = u2 := hd 35 (by kernel_rfl)
            have e36 : v3 36 = u1 := hd 36 (by kernel_rfl)
            clear hd hold
            refine ⟨_, rfl, gd_on rfl rfl rfl (Nat.le_of_ble_eq_true rfl) e30 ?_⟩
            refine Does.mono (R := ROw 5 eB (mulP lb la) w_) ?_ (fun u w' h => ⟨(h.ps).1.less (old_old (Nat.le_trans oW.size hO.size)), (h.ps).2⟩)
            exact d_call (xl := [.tmp 57, .tmp 58]) (al := [u2, u1]) Try.func16 (by kernel_rfl) rfl (show ([(v3 35), (v3 36)] : List Value) = [u2, u1] from by rw [e35, e36]) rfl (mul_ok lb la u2 u1 _ (Ps.no (h2.step hO no_any)) (Ps.no (h1.step hO no_any)) (by first | omega | (simp; done) | (simp; omega)) (by first | omega | (simp; done) | (simp; omega)))
          refine ls_cons ?_ ?_
          · intro v3 lo hi w_ k_ hO hd _ _ hk_ _ hR hold
            have e30 : v3 30 = (Value.bool true) := hd 30 (by kernel_rfl)
            have d37 : Ps (Old W.heap.size) (Seq kB (mulP lb la) (v3 37)) w_ := hd 37 (by kernel_rfl)
            clear hd hold
            refine ⟨_, rfl, gd_on rfl rfl rfl (Nat.le_of_ble_eq_true rfl) e30 ?_⟩
            exact Does.is (d_str Try.underlying23 Try.underlying5 Try.underlying9 rfl d37)
          refine ls_cons ?_ ?_
          · intro v3 lo hi w_ k_ hO hd _ _ hk_ _ hR hold
            have e30 : v3 30 = (Value.bool true) := hd 30 (by kernel_rfl)
            have e34 : v3 34 = (Value.string (strOf (mulP la lb))) := hd 34 (by kernel_rfl)
            have e38 : v3 38 = (Value.string (strOf (mulP lb la))) := hd 38 (by kernel_rfl)
            clear hd hold
            refine ⟨_, rfl, gd_on rfl rfl rfl (Nat.le_of_ble_eq_true rfl) e30 ?_⟩
            exact Does.is (d_seql (a := (mulP la lb)) (c := (mulP lb la)) e34 e38 (decide_eq_true (mulP_comm la lb)))
          refine ls_cons ?_ ?_
          · intro v3 lo hi w_ k_ hO hd _ _ hk_ _ hR hold
            have e30 : v3 30 = (Value.bool true) := hd 30 (by kernel_rfl)
            have e39 : v3 39 = (Value.bool true) := hd 39 (by kernel_rfl)
            clear hd hold
            refine ⟨_, rfl, gd rfl ?_⟩
            exact Does.is (d_pick (b := true) (v := (Value.bool true)) e30 e39)
          refine ls_cons ?_ ?_
          · intro v3 lo hi w_ k_ hO hd _ _ hk_ _ hR hold
            have e40 : v3 40 = (Value.bool true) := hd 40 (by kernel_rfl)
            clear hd hold
            refine ⟨_, rfl, gd rfl ?_⟩
            exact Does.is (d_move (v := (Value.bool true)) e40)
          refine ls_cons ?_ ?_
          · intro v3 lo hi w_ k_ hO hd _ _ hk_ _ hR hold
            have e41 : v3 41 = (Value.bool true) := hd 41 (by kernel_rfl)
            clear hd hold
            refine ⟨_, rfl, gd_on rfl rfl rfl (Nat.le_of_ble_eq_true rfl) e41 ?_⟩
            exact Does.is (d_move (v := u1) rfl)
          refine ls_cons ?_ ?_
          · intro v3 lo hi w_ k_ hO hd _ _ hk_ _ hR hold
            have e41 : v3 41 = (Value.bool true) := hd 41 (by kernel_rfl)
            clear hd hold
            refine ⟨_, rfl, gd_on rfl rfl rfl (Nat.le_of_ble_eq_true rfl) e41 ?_⟩
            exact Does.is (d_move (v := u1) rfl)
          refine ls_cons ?_ ?_
          · intro v3 lo hi w_ k_ hO hd _ _ hk_ _ hR hold
            have e41 : v3 41 = (Value.bool true) := hd 41 (by kernel_rfl)
            have e42 : v3 42 = u1 := hd 42 (by kernel_rfl)
            have e43 : v3 43 = u1 := hd 43 (by kernel_rfl)
            clear hd hold
            refine ⟨_, rfl, gd_on rfl rfl rfl (Nat.le_of_ble_eq_true rfl) e41 ?_⟩
            refine Does.mono (R := ROw 5 eB (addP la la) w_) ?_ (fun u w' h => ⟨(h.ps).1.less (old_old (Nat.le_trans oW.size hO.size)), (h.ps).2⟩)
            exact d_call (xl := [.tmp 64, .tmp 65]) (al := [u1, u1]) Try.func17 (by kernel_rfl) rfl (show ([(v3 42), (v3 43)] : List Value) = [u1, u1] from by rw [e42, e43]) rfl (add_ok la la u1 u1 _ (Ps.no (h1.step hO no_any)) (Ps.no (h1.step hO no_any)) (by first | omega | (simp; done) | (simp; omega)) (by first | omega | (simp; done) | (simp; omega)))
          refine ls_cons ?_ ?_
          · intro v3 lo hi w_ k_ hO hd _ _ hk_ _ hR hold
            have e41 : v3 41 = (Value.bool true) := hd 41 (by kernel_rfl)
            have d44 : Ps (Old W.heap.size) (Seq kB (addP la la) (v3 44)) w_ := hd 44 (by kernel_rfl)
            clear hd hold
            refine ⟨_, rfl, gd_on rfl rfl rfl (Nat.le_of_ble_eq_true rfl) e41 ?_⟩
            exact Does.is (d_lenS rfl Try.underlying23 rfl d44)
          refine ls_cons ?_ ?_
          · intro v3 lo hi w_ k_ hO hd _ _ hk_ _ hR hold
            have e41 : v3 41 = (Value.bool true) := hd 41 (by kernel_rfl)
            have e45 : v3 45 = (eN ((addP la la).length)) := hd 45 (by kernel_rfl)
            clear hd hold
            refine ⟨_, rfl, gd_on rfl rfl rfl (Nat.le_of_ble_eq_true rfl) e41 ?_⟩
            exact Does.is (n_eql (a := ((addP la la).length)) (b := 0) e45 rfl (decide_eq_true (by rw [addP_self]; rfl)))
          refine ls_cons ?_ ?_
          · intro v3 lo hi w_ k_ hO hd _ _ hk_ _ hR hold
            have e41 : v3 41 = (Value.bool true) := hd 41 (by kernel_rfl)
            have e46 : v3 46 = (Value.bool true) := hd 46 (by kernel_rfl)
            clear hd hold
            refine ⟨_, rfl, gd rfl ?_⟩
            exact Does.is (d_pick (b := true) (v := (Value.bool true)) e41 e46)
          refine ls_cons ?_ ?_
          · intro v3 lo hi w_ k_ hO hd _ _ hk_ _ hR hold
            have e47 : v3 47 = (Value.bool true) := hd 47 (by kernel_rfl)
            clear hd hold
            refine ⟨_, rfl, gd rfl ?_⟩
            exact Does.is (d_move (v := (Value.bool true)) e47)
          refine ls_cons ?_ ?_
          · intro v3 lo hi w_ k_ hO hd _ _ hk_ _ hR hold
            have e48 : v3 48 = (Value.bool true) := hd 48 (by kernel_rfl)
            clear hd hold
            refine ⟨_, rfl, gd_on rfl rfl rfl (Nat.le_of_ble_eq_true rfl) e48 ?_⟩
            exact Does.is (d_move (v := u1) rfl)
          refine ls_cons ?_ ?_
          · intro v3 lo hi w_ k_ hO hd _ _ hk_ _ hR hold
            have e48 : v3 48 = (Value.bool true) := hd 48 (by kernel_rfl)
            have e49 : v3 49 = u1 := hd 49 (by kernel_rfl)
            clear hd hold
            refine ⟨_, rfl, gd_on rfl rfl rfl (Nat.le_of_ble_eq_true rfl) e48 ?_⟩
            refine Does.mono (R := ROw 5 eB (addP la []) w_) ?_ (fun u w' h => ⟨(h.ps).1.less (old_old (Nat.le_trans oW.size hO.size)), (h.ps).2⟩)
            exact d_call (xl := [.tmp 71, .const (.slice none 0 0)]) (al := [u1, (Value.slice none 0 0)]) Try.func17 (by kernel_rfl) rfl (show ([(v3 49), (Value.slice none 0 0)] : List Value) = [u1, (Value.slice none 0 0)] from by rw [e49]) rfl (add_ok la [] u1 (Value.slice none 0 0) _ (Ps.no (h1.step hO no_any)) (Ps.no (seq_nil (X := No))) (by first | omega | (simp; done) | (simp; omega)) (by first | omega | (simp; done) | (simp; omega)))
          refine ls_cons ?_ ?_
          · intro v3 lo hi w_ k_ hO hd _ _ hk_ _ hR hold
            have e48 : v3 48 = (Value.bool true) := hd 48 (by kernel_rfl)
            have d50 : Ps (Old W.heap.size) (Seq kB (addP la []) (v3 50)) w_ := hd 50 (by kernel_rfl)
            clear hd hold
            refine ⟨_, rfl, gd_on rfl rfl rfl (Nat.le_of_ble_eq_true rfl) e48 ?_⟩
            exact Does.is (d_str Try.underlying23 Try.underlying5 Try.underlying9 rfl d50)
          refine ls_cons ?_ ?_
          · intro v3 lo hi w_ k_ hO hd _ _ hk_ _ hR hold
            have e48 : v3 48 = (Value.bool true) := hd 48 (by kernel_rfl)
            clear hd hold
            refine ⟨_, rfl, gd_on rfl rfl rfl (Nat.le_of_ble_eq_true rfl) e48 ?_⟩
            exact Does.is (d_move (v := u1) rfl)
          refine ls_cons ?_ ?_
          · intro v3 lo hi w_ k_ hO hd _ _ hk_ _ hR hold
            have e48 : v3 48 = (Value.bool true) := hd 48 (by kernel_rfl)
            have e52 : v3 52 = u1 := hd 52 (by kernel_rfl)
            clear hd hold
            refine ⟨_, rfl, gd_on rfl rfl rfl (Nat.le_of_ble_eq_true rfl) e48 ?_⟩
            refine Does.mono (R := ROw 5 eB (trimL la) w_) ?_ (fun u w' h => ⟨(h.ps).1.less (old_old (Nat.le_trans oW.size hO.size)), (h.ps).2⟩)
            exact d_call (xl := [.tmp 74]) (al := [u1]) Try.func18 (by kernel_rfl) rfl (show ([(v3 52)] : List Value) = [u1] from by rw [e52]) rfl (trim_ok la u1 _ (Ps.no (h1.step hO no_any)) (by first | omega | (simp; done) | (simp; omega)))
          refine ls_cons ?_ ?_
          · intro v3 lo hi w_ k_ hO hd _ _ hk_ _ hR hold
            have e48 : v3 48 = (Value.bool true) := hd 48 (by kernel_rfl)
            have d53 : Ps (Old W.heap.size) (Seq kB (trimL la) (v3 53)) w_ := hd 53 (by kernel_rfl)
            clear hd hold
            refine ⟨_, rfl, gd_on rfl rfl rfl (Nat.le_of_ble_eq_true rfl) e48 ?_⟩
            exact Does.is (d_str Try.underlying23 Try.underlying5 Try.underlying9 rfl d53)
          refine ls_cons ?_ ?_
          · intro v3 lo hi w_ k_ hO hd _ _ hk_ _ hR hold
            have e48 : v3 48 = (Value.bool true) := hd 48 (by kernel_rfl)
            have e51 : v3 51 = (Value.string (strOf (addP la []))) := hd 51 (by kernel_rfl)
            have e54 : v3 54 = (Value.string (strOf (trimL la))) := hd 54 (by kernel_rfl)
            clear hd hold
            refine ⟨_, rfl, gd_on rfl rfl rfl (Nat.le_of_ble_eq_true rfl) e48 ?_⟩
            exact Does.is (d_seql (a := (addP la [])) (c := (trimL la)) e51 e54 (decide_eq_true (addP_nil la)))
          refine ls_cons ?_ ?_
          · intro v3 lo hi w_ k_ hO hd _ _ hk_ _ hR hold
            have e48 : v3 48 = (Value.bool true) := hd 48 (by kernel_rfl)
            have e55 : v3 55 = (Value.bool true) := hd 55 (by kernel_rfl)
            clear hd hold
            refine ⟨_, rfl, gd rfl ?_⟩
            exact Does.is (d_pick (b := true) (v := (Value.bool true)) e48 e55)
          refine ls_cons ?_ ?_
          · intro v3 lo hi w_ k_ hO hd _ _ hk_ _ hR hold
            have e56 : v3 56 = (Value.bool true) := hd 56 (by kernel_rfl)
            clear hd hold
            refine ⟨_, rfl, gd rfl ?_⟩
            exact Does.is (d_move (v := (Value.bool true)) e56)
          refine ls_cons ?_ ?_
          · intro v3 lo hi w_ k_ hO hd _ _ hk_ _ hR hold
            have e57 : v3 57 = (Value.bool true) := hd 57 (by kernel_rfl)
            clear hd hold
            refine ⟨_, rfl, gd_on rfl rfl rfl (Nat.le_of_ble_eq_true rfl) e57 ?_⟩
            exact Does.is (d_move (v := u1) rfl)
          refine ls_cons ?_ ?_
          · intro v3 lo hi w_ k_ hO hd _ _ hk_ _ hR hold
            have e57 : v3 57 = (Value.bool true) := hd 57 (by kernel_rfl)
            have e58 : v3 58 = u1 := hd 58 (by kernel_rfl)
            clear hd hold
            refine ⟨_, rfl, gd_on rfl rfl rfl (Nat.le_of_ble_eq_true rfl) e57 ?_⟩
            refine Does.mono (R := ROw 5 eB (mulP la []) w_) ?_ (fun u w' h => ⟨(h.ps).1.less (old_old (Nat.le_trans oW.size hO.size)), (h.ps).2⟩)
            exact d_call (xl := [.tmp 80, .const (.slice none 0 0)]) (al := [u1, (Value.slice none 0 0)]) Try.func16 (by kernel_rfl) rfl (show ([(v3 58), (Value.slice none 0 0)] : List Value) = [u1, (Value.slice none 0 0)] from by rw [e58]) rfl (mul_ok la [] u1 (Value.slice none 0 0) _ (Ps.no (h1.step hO no_any)) (Ps.no (seq_nil (X := No))) (by first | omega | (simp; done) | (simp; omega)) (by first | omega | (simp; done) | (simp; omega)))
          refine ls_cons ?_ ?_
          · intro v3 lo hi w_ k_ hO hd _ _ hk_ _ hR hold
            have e57 : v3 57 = (Value.bool true) := hd 57 (by kernel_rfl)
            have d59 : Ps (Old W.heap.size) (Seq kB (mulP la []) (v3 59)) w_ := hd 59 (by kernel_rfl)
            clear hd hold
            refine ⟨_, rfl, gd_on rfl rfl rfl (Nat.le_of_ble_eq_true rfl) e57 ?_⟩
            exact Does.is (d_lenS rfl Try.underlying23 rfl d59)
          refine ls_cons ?_ ?_
          · intro v3 lo hi w_ k_ hO hd _ _ hk_ _ hR hold
            have e57 : v3 57 = (Value.bool true) := hd 57 (by kernel_rfl)
            have e60 : v3 60 = (eN ((mulP la []).length)) := hd 60 (by kernel_rfl)
            clear hd hold
            refine ⟨_, rfl, gd_on rfl rfl rfl (Nat.le_of_ble_eq_true rfl) e57 ?_⟩
            exact Does.is (n_eql (a := ((mulP la []).length)) (b := 0) e60 rfl (decide_eq_true (by rw [mulP_nil]; rfl)))
          refine ls_cons ?_ ?_
          · intro v3 lo hi w_ k_ hO hd _ _ hk_ _ hR hold
            have e57 : v3 57 = (Value.bool true) := hd 57 (by kernel_rfl)
            have e61 : v3 61 = (Value.bool true) := hd 61 (by kernel_rfl)
            clear hd hold
            refine ⟨_, rfl, gd rfl ?_⟩
            exact Does.is (d_pick (b := true) (v := (Value.bool true)) e57 e61)
          refine ls_cons ?_ ?_
          · intro v3 lo hi w_ k_ hO hd _ _ hk_ _ hR hold
            have e62 : v3 62 = (Value.bool true) := hd 62 (by kernel_rfl)
            clear hd hold
            refine ⟨_, rfl, gd rfl ?_⟩
            exact Does.is (d_assign (v := (Value.bool true)) e62)
          exact ls_nil
        · skip
          exact ms_nil
        intro v3 lo_ hi_ w4 o5 hd iv_ hR
        have e0 : v3 0 = u1 := hd 0 (by decide)
        have e1 : v3 1 = u2 := hd 1 (by decide)
        have e3 : v3 3 = u3 := hd 3 (by decide)
        have e5 : v3 5 = (Value.string (strOf (mulP (mulP la lb) lc))) := hd 5 (by decide)
        have e6 : v3 6 = u1 := hd 6 (by decide)
        have e7 : v3 7 = u2 := hd 7 (by decide)
        have e8 : v3 8 = u3 := hd 8 (by decide)
        have e11 : v3 11 = (Value.string (strOf (mulP la (mulP lb lc)))) := hd 11 (by decide)
        have e12 : v3 12 = (Value.bool true) := hd 12 (by decide)
        have e13 : v3 13 = (Value.bool true) := hd 13 (by decide)
        have e14 : v3 14 = u1 := hd 14 (by decide)
        have e15 : v3 15 = u2 := hd 15 (by decide)
        have e16 : v3 16 = u3 := hd 16 (by decide)
        have e19 : v3 19 = (Value.string (strOf (mulP la (addP lb lc)))) := hd 19 (by decide)
        have e20 : v3 20 = u1 := hd 20 (by decide)
        have e21 : v3 21 = u2 := hd 21 (by decide)
        have e23 : v3 23 = u1 := hd 23 (by decide)
        have e24 : v3 24 = u3 := hd 24 (by decide)
        have e27 : v3 27 = (Value.string (strOf (addP (mulP la lb) (mulP la lc)))) := hd 27 (by decide)
        have e28 : v3 28 = (Value.bool true) := hd 28 (by decide)
        have e29 : v3 29 = (Value.bool true) := hd 29 (by decide)
        have e30 : v3 30 = (Value.bool true) := hd 30 (by decide)
        have e31 : v3 31 = u1 := hd 31 (by decide)
        have e32 : v3 32 = u2 := hd 32 (by decide)
        have e34 : v3 34 = (Value.string (strOf (mulP la lb))) := hd 34 (by decide)
        have e35 : v3 35 = u2 := hd 35 (by decide)
        have e36 : v3 36 = u1 := hd 36 (by decide)
        have e38 : v3 38 = (Value.string (strOf (mulP lb la))) := hd 38 (by decide)
        have e39 : v3 39 = (Value.bool true) := hd 39 (by decide)
        have e40 : v3 40 = (Value.bool true) := hd 40 (by decide)
        have e41 : v3 41 = (Value.bool true) := hd 41 (by decide)
        have e42 : v3 42 = u1 := hd 42 (by decide)
        have e43 : v3 43 = u1 := hd 43 (by decide)
        have e45 : v3 45 = (eN ((addP la la).length)) := hd 45 (by decide)
        have e46 : v3 46 = (Value.bool true) := hd 46 (by decide)
        have e47 : v3 47 = (Value.bool true) := hd 47 (by decide)
        have e48 : v3 48 = (Value.bool true) := hd 48 (by decide)
        have e49 : v3 49 = u1 := hd 49 (by decide)
        have e51 : v3 51 = (Value.string (strOf (addP la []))) := hd 51 (by decide)
        have e52 : v3 52 = u1 := hd 52 (by decide)
        have e54 : v3 54 = (Value.string (strOf (trimL la))) := hd 54 (by decide)
        have e55 : v3 55 = (Value.bool true) := hd 55 (by decide)
        have e56 : v3 56 = (Value.bool true) := hd 56 (by decide)
        have e57 : v3 57 = (Value.bool true) := hd 57 (by decide)
        have e58 : v3 58 = u1 := hd 58 (by decide)
        have e60 : v3 60 = (eN ((mulP la []).length)) := hd 60 (by decide)
        have e61 : v3 61 = (Value.bool true) := hd 61 (by decide)
        have e62 : v3 62 = (Value.bool true) := hd 62 (by decide)
        have e63 : v3 63 = (Value.bool true) := hd 63 (by decide)
        have f_v3_2 : Ps (Old W.heap.size) (Seq kB (mulP la lb) (v3 2)) w4 := hd 2 (by decide)
        have f_v3_4 : Ps (Old W.heap.size) (Seq kB (mulP (mulP la lb) lc) (v3 4)) w4 := hd 4 (by decide)
        have f_v3_9 : Ps (Old W.heap.size) (Seq kB (mulP lb lc) (v3 9)) w4 := hd 9 (by decide)
        have f_v3_10 : Ps (Old W.heap.size) (Seq kB (mulP la (mulP lb lc)) (v3 10)) w4 := hd 10 (by decide)
        have f_v3_17 : Ps (Old W.heap.size) (Seq kB (addP lb lc) (v3 17)) w4 := hd 17 (by decide)
        have f_v3_18 : Ps (Old W.heap.size) (Seq kB (mulP la (addP lb lc)) (v3 18)) w4 := hd 18 (by decide)
        have f_v3_22 : Ps (Old W.heap.size) (Seq kB (mulP la lb) (v3 22)) w4 := hd 22 (by decide)
        have f_v3_25 : Ps (Old W.heap.size) (Seq kB (mulP la lc) (v3 25)) w4 := hd 25 (by decide)
        have f_v3_26 : Ps (Old W.heap.size) (Seq kB (addP (mulP la lb) (mulP la lc)) (v3 26)) w4 := hd 26 (by decide)
        have f_v3_33 : Ps (Old W.heap.size) (Seq kB (mulP la lb) (v3 33)) w4 := hd 33 (by decide)
        have f_v3_37 : Ps (Old W.heap.size) (Seq kB (mulP lb la) (v3 37)) w4 := hd 37 (by decide)
        have f_v3_44 : Ps (Old W.heap.size) (Seq kB (addP la la) (v3 44)) w4 := hd 44 (by decide)
        have f_v3_50 : Ps (Old W.heap.size) (Seq kB (addP la []) (v3 50)) w4 := hd 50 (by decide)
        have f_v3_53 : Ps (Old W.heap.size) (Seq kB (trimL la) (v3 53)) w4 := hd 53 (by decide)
        have f_v3_59 : Ps (Old W.heap.size) (Seq kB (mulP la []) (v3 59)) w4 := hd 59 (by decide)
        clear hd iv_ lo_ hi_
        refine fr_eq (l' := [u1, u2, u3, undef, undef, undef, (Value.bool true), (Value.bool true), (Value.bool false), u1, (eN la.length), (Value.bool false), (Value.bool false), u2, (eN lb.length), (Value.bool false), (Value.bool false), (Value.bool false), u3, (eN lc.length), (Value.bool (decide (20 < lc.length))), (Value.bool (decide (20 < lc.length))), u1, u2, (v3 2), u3, (v3 4), (Value.string (strOf (mulP (mulP la lb) lc))), u1, u2, u3, (v3 9), (v3 10), (Value.string (strOf (mulP la (mulP lb lc)))), (Value.bool true), (Value.bool true), u1, u2, u3, (v3 17), (v3 18), (Value.string (strOf (mulP la (addP lb lc)))), u1, u2, (v3 22), u1, u3, (v3 25), (v3 26), (Value.string (strOf (addP (mulP la lb) (mulP la lc)))), (Value.bool true), (Value.bool true), (Value.bool true), u1, u2, (v3 33), (Value.string (strOf (mulP la lb))), u2, u1, (v3 37), (Value.string (strOf (mulP lb la))), (Value.bool true), (Value.bool true), (Value.bool true), u1, u1, (v3 44), (eN ((addP la la).length)), (Value.bool true), (Value.bool true), (Value.bool true), u1, (v3 50), (Value.string (strOf (addP la []))), u1, (v3 53), (Value.string (strOf (trimL la))), (Value.bool true), (Value.bool true), (Value.bool true), u1, (v3 59), (eN ((mulP la []).length)), (Value.bool true), (Value.bool true)]) (by rw [e0, e1, e3, e5, e6, e7, e8, e11, e12, e13, e14, e15, e16, e19, e20, e21, e23, e24, e27, e28, e29, e30, e31, e32, e34, e35, e36, e38, e39, e40, e41, e42, e43, e45, e46, e47, e48, e49, e51, e52, e54, e55, e56, e57, e58, e60, e61, e62, e63]) ?_
        clear e0 e1 e3 e5 e6 e7 e8 e11 e12 e13 e14 e15 e16 e19 e20 e21 e23 e24 e27 e28 e29 e30 e31 e32 e34 e35 e36 e38 e39 e40 e41 e42 e43 e45 e46 e47 e48 e49 e51 e52 e54 e55 e56 e57 e58 e60 e61 e62 e63
        replace h1 := h1.step o5 no_any
        replace h2 := h2.step o5 no_any
        replace h3 := h3.step o5 no_any
        clear hR
        replace oW := oW.tail o5 tl_no
        refine then_n ?_
        refine wpIn_ret ?_
        refine leave0 (v := (Value.bool true)) (res1 Try.results4 rfl) ?_
        exact ⟨rfl, oW⟩

end Go.Proofs.YtphlhejccgbmfaaF
