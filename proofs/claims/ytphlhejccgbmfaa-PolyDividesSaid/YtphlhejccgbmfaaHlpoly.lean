import Derived.Test.YtphlhejccgbmfaaFi
import Derived.Test.YtphlhejccgbmfaaTy
import Derived.Test.YtphlhejccgbmfaaHpoly
import Derived.Test.YtphlhejccgbmfaaMl
set_option linter.unusedVariables false
set_option linter.unusedSimpArgs false
namespace Go.Proofs.YtphlhejccgbmfaaF
open Go Go.Shelf Go.Proofs.YtphlhejccgbmfaaS Ram
set_option maxRecDepth 20000 in
set_option maxHeartbeats 1000000 in
theorem polyEvals_ok (la lb : List UInt8) (x : UInt8) (u1 u2 : Value) (W : World) (h1 : Ps No (Seq kB la u1) W) (h2 : Ps No (Seq kB lb u2) W) :
    CW Try.prog 5 #[u1, u2, (eB x)] W (Rt (RIs (.bool true) W)) := by
  have oW : Only No W W := Only.refl _ _
  refine enter (al := [u1, u2, (eB x)]) (k := 51) (l := [u1, u2, (eB x), undef, undef, undef, undef, undef, undef, undef, undef, undef, undef, undef, undef, undef, undef, undef, undef, undef, undef, undef, undef, undef, undef, undef, undef, undef, undef, undef, undef, undef, undef, undef, undef, undef, undef, undef, undef, undef, undef, undef, undef, undef, undef, undef, undef, undef, undef, undef, undef, undef, undef, undef]) Try.func5 rfl Try.ntmps5 rfl rfl ?_
  refine wpIn_seq ?_
  refine plain ?_
  refine wpL.is (v := (.bool false)) rfl (d_assign (v := (.bool false)) rfl) ?_
  refine wpL.flat [u1, u2, (eB x), undef, undef, undef, (.bool false), undef, undef, undef, undef, undef, undef, undef, undef, undef, undef, undef, undef, undef, undef, undef, undef, undef, undef, undef, undef, undef, undef, undef, undef, undef, undef, undef, undef, undef, undef, undef, undef, undef, undef, undef, undef, undef, undef, undef, undef, undef, undef, undef, undef, undef, undef, undef] (by kernel_rfl) ?_
  refine wpL.done ?_
  refine then_n ?_
  refine wpIn_seq ?_
  refine wpIn_seq ?_
  refine plain ?_
  refine wpL.op rfl (d_call (xl := []) (al := []) Try.func10 (by kernel_rfl) rfl rfl rfl (known_ok _)) ?_
  rintro _ w1 ⟨rfl, o2⟩
  replace h1 := h1.step0 o2
  replace h2 := h2.step0 o2
  replace oW := oW.tail0 o2
  refine wpL.is (v := (.bool false)) rfl (d_not rfl rfl) ?_
  refine wpL.flat [u1, u2, (eB x), undef, undef, undef, (.bool false), (.bool true), (.bool false), undef, undef, undef, undef, undef, undef, undef, undef, undef, undef, undef, undef, undef, undef, undef, undef, undef, undef, undef, undef, undef, undef, undef, undef, undef, undef, undef, undef, undef, undef, undef, undef, undef, undef, undef, undef, undef, undef, undef, undef, undef, undef, undef, undef, undef] (by kernel_rfl) ?_
  refine wpL.done ?_
  refine then_n ?_
  refine cond_f rfl ?_
  refine wpIn_skip ?_
  refine then_n ?_
  refine wpIn_seq ?_
  refine wpIn_seq ?_
  by_cases k1 : 40 < la.length
  · skip
    refine plain ?_
    refine wpL.is (v := u1) rfl (d_move (v := u1) rfl) ?_
    refine wpL.is (v := (eN la.length)) rfl (d_lenS rfl Try.underlying23 rfl h1) ?_
    refine wpL.is (v := (.bool true)) rfl (n_gtr (a := la.length) (b := 40) rfl rfl (decide_eq_true k1)) ?_
    refine wpL.flat [u1, u2, (eB x), undef, undef, undef, (.bool false), (.bool true), (.bool false), u1, (eN la.length), (.bool true), undef, undef, undef, undef, undef, undef, undef, undef, undef, undef, undef, undef, undef, undef, undef, undef, undef, undef, undef, undef, undef, undef, undef, undef, undef, undef, undef, undef, undef, undef, undef, undef, undef, undef, undef, undef, undef, undef, undef, undef, undef, undef] (by kernel_rfl) ?_
    refine wpL.is (v := (.bool true)) rfl (d_move (v := (.bool true)) rfl) ?_
    refine wpL.off rfl rfl rfl (Nat.le_of_ble_eq_true rfl) rfl ?_
    refine wpL.flat [u1, u2, (eB x), undef, undef, undef, (.bool false), (.bool true), (.bool false), u1, (eN la.length), (.bool true), (.bool true), undef, undef, undef, undef, undef, undef, undef, undef, undef, undef, undef, undef, undef, undef, undef, undef, undef, undef, undef, undef, undef, undef, undef, undef, undef, undef, undef, undef, undef, undef, undef, undef, undef, undef, undef, undef, undef, undef, undef, undef, undef] (by kernel_rfl) ?_
    refine wpL.off rfl rfl rfl (Nat.le_of_ble_eq_true rfl) rfl ?_
    refine wpL.off rfl rfl rfl (Nat.le_of_ble_eq_true rfl) rfl ?_
    refine wpL.is (v := (.bool true)) rfl (d_pick (b := true) (v := (.bool true)) rfl rfl) ?_
    refine wpL.flat [u1, u2, (eB x), undef, undef, undef, (.bool false), (.bool true), (.bool false), u1, (eN la.length), (.bool true), (.bool true), undef, undef, undef, (.bool true), undef, undef, undef, undef, undef, undef, undef, undef, undef, undef, undef, undef, undef, undef, undef, undef, undef, undef, undef, undef, undef, undef, undef, undef, undef, undef, undef, undef, undef, undef, undef, undef, undef, undef, undef, undef, undef] (by kernel_rfl) ?_
    refine wpL.done ?_
    refine then_n ?_
    refine cond_t rfl ?_
    refine wpIn_seq ?_
    refine plain ?_
    refine wpL.is (v := (.bool true)) rfl (d_assign (v := (.bool true)) rfl) ?_
    refine wpL.flat [u1, u2, (eB x), undef, undef, undef, (.bool true), (.bool true), (.bool false), u1, (eN la.length), (.bool true), (.bool true), undef, undef, undef, (.bool true), undef, undef, undef, undef, undef, undef, undef, undef, undef, undef, undef, undef, undef, undef, undef, undef, undef, undef, undef, undef, undef, undef, undef, undef, undef, undef, undef, undef, undef, undef, undef, undef, undef, undef, undef, undef, undef] (by kernel_rfl) ?_
    refine wpL.done ?_
    refine then_n ?_
    refine wpIn_ret ?_
    refine then_r ?_
    refine leave0 (v := (.bool true)) (res1 Try.results5 rfl) ?_
    exact ⟨rfl, oW⟩
  · skip
    refine plain ?_
    refine wpL.is (v := u1) rfl (d_move (v := u1) rfl) ?_
    refine wpL.is (v := (eN la.length)) rfl (d_lenS rfl Try.underlying23 rfl h1) ?_
    refine wpL.is (v := (.bool false)) rfl (n_gtr (a := la.length) (b := 40) rfl rfl (decide_eq_false k1)) ?_
    refine wpL.flat [u1, u2, (eB x), undef, undef, undef, (.bool false), (.bool true), (.bool false), u1, (eN la.length), (.bool false), undef, undef, undef, undef, undef, undef, undef, undef, undef, undef, undef, undef, undef, undef, undef, undef, undef, undef, undef, undef, undef, undef, undef, undef, undef, undef, undef, undef, undef, undef, undef, undef, undef, undef, undef, undef, undef, undef, undef, undef, undef, undef] (by kernel_rfl) ?_
    refine wpL.is (v := (.bool false)) rfl (d_move (v := (.bool false)) rfl) ?_
    refine wpL.onis (v := u2) rfl rfl rfl (Nat.le_of_ble_eq_true rfl) rfl (d_move (v := u2) rfl) ?_
    refine wpL.onis (v := (eN lb.length)) rfl rfl rfl (Nat.le_of_ble_eq_true rfl) rfl (d_lenS rfl Try.underlying23 rfl h2) ?_
    refine wpL.flat [u1, u2, (eB x), undef, undef, undef, (.bool false), (.bool true), (.bool false), u1, (eN la.length), (.bool false), (.bool false), u2, (eN lb.length), undef, undef, undef, undef, undef, undef, undef, undef, undef, undef, undef, undef, undef, undef, undef, undef, undef, undef, undef, undef, undef, undef, undef, undef, undef, undef, undef, undef, undef, undef, undef, undef, undef, undef, undef, undef, undef, undef, undef] (by kernel_rfl) ?_
    refine wpL.onis (v := (.bool (decide (40 < lb.length)))) rfl rfl rfl (Nat.le_of_ble_eq_true rfl) rfl (n_gtr (a := lb.length) (b := 40) rfl rfl rfl) ?_
    refine wpL.is (v := (.bool (decide (40 < lb.length)))) rfl (d_pick (b := false) (v := (.bool (decide (40 < lb.length)))) rfl rfl) ?_
    refine wpL.flat [u1, u2, (eB x), undef, undef, undef, (.bool false), (.bool true), (.bool false), u1, (eN la.length), (.bool false), (.bool false), u2, (eN lb.length), (.bool (decide (40 < lb.length))), (.bool (decide (40 < lb.length))), undef, undef, undef, undef, undef, undef, undef, undef, undef, undef, undef, undef, undef, undef, undef, undef, undef, undef, undef, undef, undef, undef, undef, undef, undef, undef, undef, undef, undef, undef, undef, undef, undef, undef, undef, undef, undef] (by kernel_rfl) ?_
    refine wpL.done ?_
    refine then_n ?_
    refine cond_if rfl (fun k2 => ?_) (fun k2 => ?_)
    · skip
      refine wpIn_seq ?_
      refine plain ?_
      refine wpL.is (v := (.bool true)) rfl (d_assign (v := (.bool true)) rfl) ?_
      refine wpL.flat [u1, u2, (eB x), undef, undef, undef, (.bool true), (.bool true), (.bool false), u1, (eN la.length), (.bool false), (.bool false), u2, (eN lb.length), (.bool (decide (40 < lb.length))), (.bool (decide (40 < lb.length))), undef, undef, undef, undef, undef, undef, undef, undef, undef, undef, undef, undef, undef, undef, undef, undef, undef, undef, undef, undef, undef, undef, undef, undef, undef, undef, undef, undef, undef, undef, undef, undef, undef, undef, undef, undef, undef] (by kernel_rfl) ?_
      refine wpL.done ?_
      refine then_n ?_
      refine wpIn_ret ?_
      refine then_r ?_
      refine leave0 (v := (.bool true)) (res1 Try.results5 rfl) ?_
      exact ⟨rfl, oW⟩
    · skip
      refine wpIn_skip ?_
      refine then_n ?_
      refine wpIn_seq ?_
      refine plain ?_
      refine wpL.is (v := u1) rfl (d_move (v := u1) rfl) ?_
      refine wpL.is (v := (eB x)) rfl (d_move (v := (eB x)) rfl) ?_
      refine wpL.op rfl (d_call (xl := [.tmp 17, .tmp 18]) (al := [u1, (eB x)]) Try.func14 (by kernel_rfl) rfl rfl rfl (eval_ok la u1 x _ (Ps.no h1) (by first | omega | (simp; done) | (simp; omega)))) ?_
      rintro _ w3 ⟨rfl, o4⟩
      replace h1 := h1.step0 o4
      replace h2 := h2.step0 o4
      replace oW := oW.tail0 o4
      refine wpL.flat [u1, u2, (eB x), undef, undef, undef, (.bool false), (.bool true), (.bool false), u1, (eN la.length), (.bool false), (.bool false), u2, (eN lb.length), (.bool (decide (40 < lb.length))), (.bool (decide (40 < lb.length))), u1, (eB x), (eB (evP la x)), undef, undef, undef, undef, undef, undef, undef, undef, undef, undef, undef, undef, undef, undef, undef, undef, undef, undef, undef, undef, undef, undef, undef, undef, undef, undef, undef, undef, undef, undef, undef, undef, undef, undef] (by kernel_rfl) ?_
      refine wpL.is (v := u1) rfl (d_move (v := u1) rfl) ?_
      refine wpL.is (v := (eB x)) rfl (d_move (v := (eB x)) rfl) ?_
      refine wpL.op rfl (d_call (xl := [.tmp 20, .tmp 21]) (al := [u1, (eB x)]) Try.func19 (by kernel_rfl) rfl rfl rfl (ref3Eval_ok la u1 x _ (Ps.no h1) (by first | omega | (simp; done) | (simp; omega)))) ?_
      rintro _ w5 ⟨rfl, o6⟩
      replace h1 := h1.step0 o6
      replace h2 := h2.step0 o6
      replace oW := oW.tail0 o6
      refine wpL.flat [u1, u2, (eB x), undef, undef, undef, (.bool false), (.bool true), (.bool false), u1, (eN la.length), (.bool false), (.bool false), u2, (eN lb.length), (.bool (decide (40 < lb.length))), (.bool (decide (40 < lb.length))), u1, (eB x), (eB (evP la x)), u1, (eB x), (eB (evP la x)), undef, undef, undef, undef, undef, undef, undef, undef, undef, undef, undef, undef, undef, undef, undef, undef, undef, undef, undef, undef, undef, undef, undef, undef, undef, undef, undef, undef, undef, undef, undef] (by kernel_rfl) ?_
      refine wpL.is (v := (.bool true)) rfl (b_eql (c := (evP la x)) (e := (evP la x)) rfl rfl (decide_eq_true rfl)) ?_
      refine wpL.is (v := (.bool true)) rfl (d_move (v := (.bool true)) rfl) ?_
      refine wpL.onis (v := u1) rfl rfl rfl (Nat.le_of_ble_eq_true rfl) rfl (d_move (v := u1) rfl) ?_
      refine wpL.flat [u1, u2, (eB x), undef, undef, undef, (.bool false), (.bool true), (.bool false), u1, (eN la.length), (.bool false), (.bool false), u2, (eN lb.length), (.bool (decide (40 < lb.length))), (.bool (decide (40 < lb.length))), u1, (eB x), (eB (evP la x)), u1, (eB x), (eB (evP la x)), (.bool true), (.bool true), u1, undef, undef, undef, undef, undef, undef, undef, undef, undef, undef, undef, undef, undef, undef, undef, undef, undef, undef, undef, undef, undef, undef, undef, undef, undef, undef, undef, undef] (by kernel_rfl) ?_
      refine wpL.onis (v := u2) rfl rfl rfl (Nat.le_of_ble_eq_true rfl) rfl (d_move (v := u2) rfl) ?_
      refine wpL.on rfl rfl rfl (Nat.le_of_ble_eq_true rfl) rfl (d_call (xl := [.tmp 25, .tmp 26]) (al := [u1, u2]) Try.func17 (by kernel_rfl) rfl rfl rfl (add_ok la lb u1 u2 _ (Ps.no h1) (Ps.no h2) (by first | omega | (simp; done) | (simp; omega)) (by first | omega | (simp; done) | (simp; omega)))) ?_
      rintro u9 w7 f10
      replace f10 := f10.ps
      obtain ⟨f10, o8⟩ := f10
      replace f10 := f10.less (Y := (Old W.heap.size)) (old_old oW.size)
      replace h1 := h1.step0 o8
      replace h2 := h2.step0 o8
      replace oW := oW.tail0 o8
      refine wpL.onis (v := (eB x)) rfl rfl rfl (Nat.le_of_ble_eq_true rfl) rfl (d_move (v := (eB x)) rfl) ?_
      refine wpL.flat [u1, u2, (eB x), undef, undef, undef, (.bool false), (.bool true), (.bool false), u1, (eN la.length), (.bool false), (.bool false), u2, (eN lb.length), (.bool (decide (40 < lb.length))), (.bool (decide (40 < lb.length))), u1, (eB x), (eB (evP la x)), u1, (eB x), (eB (evP la x)), (.bool true), (.bool true), u1, u2, u9, (eB x), undef, undef, undef, undef, undef, undef, undef, undef, undef, undef, undef, undef, undef, undef, undef, undef, undef, undef, undef, undef, undef, undef, undef, undef, undef] (by kernel_rfl) ?_
      refine wpL.on rfl rfl rfl (Nat.le_of_ble_eq_true rfl) rfl (d_call (xl := [.tmp 27, .tmp 28]) (al := [u9, (eB x)]) Try.func14 (by kernel_rfl) rfl rfl rfl (eval_ok (addP la lb) u9 x _ (Ps.no f10) (by have := addP_len la lb; first | omega | (simp; done) | (simp; omega)))) ?_
      rintro _ w11 ⟨rfl, o12⟩
      replace h1 := h1.step0 o12
      replace h2 := h2.step0 o12
      replace f10 := f10.step0 o12
      replace oW := oW.tail0 o12
      refine wpL.onis (v := u1) rfl rfl rfl (Nat.le_of_ble_eq_true rfl) rfl (d_move (v := u1) rfl) ?_
      refine wpL.onis (v := (eB x)) rfl rfl rfl (Nat.le_of_ble_eq_true rfl) rfl (d_move (v := (eB x)) rfl) ?_
      refine wpL.flat [u1, u2, (eB x), undef, undef, undef, (.bool false), (.bool true), (.bool false), u1, (eN la.length), (.bool false), (.bool false), u2, (eN lb.length), (.bool (decide (40 < lb.length))), (.bool (decide (40 < lb.length))), u1, (eB x), (eB (evP la x)), u1, (eB x), (eB (evP la x)), (.bool true), (.bool true), u1, u2, u9, (eB x), (eB (evP (addP la lb) x)), u1, (eB x), undef, undef, undef, undef, undef, undef, undef, undef, undef, undef, undef, undef, undef, undef, undef, undef, undef, undef, undef, undef, undef, undef] (by kernel_rfl) ?_
      refine wpL.on rfl rfl rfl (Nat.le_of_ble_eq_true rfl) rfl (d_call (xl := [.tmp 30, .tmp 31]) (al := [u1, (eB x)]) Try.func14 (by kernel_rfl) rfl rfl rfl (eval_ok la u1 x _ (Ps.no h1) (by first | omega | (simp; done) | (simp; omega)))) ?_
      rintro _ w13 ⟨rfl, o14⟩
      replace h1 := h1.step0 o14
      replace h2 := h2.step0 o14
      replace f10 := f10.step0 o14
      replace oW := oW.tail0 o14
      refine wpL.onis (v := u2) rfl rfl rfl (Nat.le_of_ble_eq_true rfl) rfl (d_move (v := u2) rfl) ?_
      refine wpL.onis (v := (eB x)) rfl rfl rfl (Nat.le_of_ble_eq_true rfl) rfl (d_move (v := (eB x)) rfl) ?_
      refine wpL.flat [u1, u2, (eB x), undef, undef, undef, (.bool false), (.bool true), (.bool false), u1, (eN la.length), (.bool false), (.bool false), u2, (eN lb.length), (.bool (decide (40 < lb.length))), (.bool (decide (40 < lb.length))), u1, (eB x), (eB (evP la x)), u1, (eB x), (eB (evP la x)), (.bool true), (.bool true), u1, u2, u9, (eB x), (eB (evP (addP la lb) x)), u1, (eB x), (eB (evP la x)), u2, (eB x), undef, undef, undef, undef, undef, undef, undef, undef, undef, undef, undef, undef, undef, undef, undef, undef, undef, undef, undef] (by kernel_rfl) ?_
      refine wpL.on rfl rfl rfl (Nat.le_of_ble_eq_true rfl) rfl (d_call (xl := [.tmp 33, .tmp 34]) (al := [u2, (eB x)]) Try.func14 (by kernel_rfl) rfl rfl rfl (eval_ok lb u2 x _ (Ps.no h2) (by first | omega | (simp; done) | (simp; omega)))) ?_
      rintro _ w15 ⟨rfl, o16⟩
      replace h1 := h1.step0 o16
      replace h2 := h2.step0 o16
      replace f10 := f10.step0 o16
      replace oW := oW.tail0 o16
      refine wpL.onis (v := (eB ((evP la x) ^^^ (evP lb x)))) rfl rfl rfl (Nat.le_of_ble_eq_true rfl) rfl (b_xor (c := (evP la x)) (e := (evP lb x)) rfl rfl) ?_
      refine wpL.onis (v := (.bool true)) rfl rfl rfl (Nat.le_of_ble_eq_true rfl) rfl (b_eql (c := (evP (addP la lb) x)) (e := ((evP la x) ^^^ (evP lb x))) rfl rfl (decide_eq_true (evP_addP la lb x))) ?_
      refine wpL.flat [u1, u2, (eB x), undef, undef, undef, (.bool false), (.bool true), (.bool false), u1, (eN la.length), (.bool false), (.bool false), u2, (eN lb.length), (.bool (decide (40 < lb.length))), (.bool (decide (40 < lb.length))), u1, (eB x), (eB (evP la x)), u1, (eB x), (eB (evP la x)), (.bool true), (.bool true), u1, u2, u9, (eB x), (eB (evP (addP la lb) x)), u1, (eB x), (eB (evP la x)), u2, (eB x), (eB (evP lb x)), (eB ((evP la x) ^^^ (evP lb x))), (.bool true), undef, undef, undef, undef, undef, undef, undef, undef, undef, undef, undef, undef, undef, undef, undef, undef] (by kernel_rfl) ?_
      refine wpL.is (v := (.bool true)) rfl (d_pick (b := true) (v := (.bool true)) rfl rfl) ?_
      refine wpL.is (v := (.bool true)) rfl (d_move (v := (.bool true)) rfl) ?_
      refine wpL.onis (v := u1) rfl rfl rfl (Nat.le_of_ble_eq_true rfl) rfl (d_move (v := u1) rfl) ?_
      refine wpL.flat [u1, u2, (eB x), undef, undef, undef, (.bool false), (.bool true), (.bool false), u1, (eN la.length), (.bool false), (.bool false), u2, (eN lb.length), (.bool (decide (40 < lb.length))), (.bool (decide (40 < lb.length))), u1, (eB x), (eB (evP la x)), u1, (eB x), (eB (evP la x)), (.bool true), (.bool true), u1, u2, u9, (eB x), (eB (evP (addP la lb) x)), u1, (eB x), (eB (evP la x)), u2, (eB x), (eB (evP lb x)), (eB ((evP la x) ^^^ (evP lb x))), (.bool true), (.bool true), (.bool true), u1, undef, undef, undef, undef, undef, undef, undef, undef, undef, undef, undef, undef, undef] (by kernel_rfl) ?_
      refine wpL.onis (v := u2) rfl rfl rfl (Nat.le_of_ble_eq_true rfl) rfl (d_move (v := u2) rfl) ?_
      refine wpL.on rfl rfl rfl (Nat.le_of_ble_eq_true rfl) rfl (d_call (xl := [.tmp 40, .tmp 41]) (al := [u1, u2]) Try.func16 (by kernel_rfl) rfl rfl rfl (mul_ok la lb u1 u2 _ (Ps.no h1) (Ps.no h2) (by first | omega | (simp; done) | (simp; omega)) (by first | omega | (simp; done) | (simp; omega)))) ?_
      rintro u19 w17 f20
      replace f20 := f20.ps
      obtain ⟨f20, o18⟩ := f20
      replace f20 := f20.less (Y := (Old W.heap.size)) (old_old oW.size)
      replace h1 := h1.step0 o18
      replace h2 := h2.step0 o18
      replace f10 := f10.step0 o18
      replace oW := oW.tail0 o18
      refine wpL.onis (v := (eB x)) rfl rfl rfl (Nat.le_of_ble_eq_true rfl) rfl (d_move (v := (eB x)) rfl) ?_
      refine wpL.flat [u1, u2, (eB x), undef, undef, undef, (.bool false), (.bool true), (.bool false), u1, (eN la.length), (.bool false), (.bool false), u2, (eN lb.length), (.bool (decide (40 < lb.length))), (.bool (decide (40 < lb.length))), u1, (eB x), (eB (evP la x)), u1, (eB x), (eB (evP la x)), (.bool true), (.bool true), u1, u2, u9, (eB x), (eB (evP (addP la lb) x)), u1, (eB x), (eB (evP la x)), u2, (eB x), (eB (evP lb x)), (eB ((evP la x) ^^^ (evP lb x))), (.bool true), (.bool true), (.bool true), u1, u2, u19, (eB x), undef, undef, undef, undef, undef, undef, undef, undef, undef, undef] (by kernel_rfl) ?_
      refine wpL.on rfl rfl rfl (Nat.le_of_ble_eq_true rfl) rfl (d_call (xl := [.tmp 42, .tmp 43]) (al := [u19, (eB x)]) Try.func14 (by kernel_rfl) rfl rfl rfl (eval_ok (mulP la lb) u19 x _ (Ps.no f20) (by have := mulP_len la lb; first | omega | (simp; done) | (simp; omega)))) ?_
      rintro _ w21 ⟨rfl, o22⟩
      replace h1 := h1.step0 o22
      replace h2 := h2.step0 o22
      replace f10 := f10.step0 o22
      replace f20 := f20.step0 o22
      replace oW := oW.tail0 o22
      refine wpL.onis (v := u1) rfl rfl rfl (Nat.le_of_ble_eq_true rfl) rfl (d_move (v := u1) rfl) ?_
      refine wpL.onis (v := (eB x)) rfl rfl rfl (Nat.le_of_ble_eq_true rfl) rfl (d_move (v := (eB x)) rfl) ?_
      refine wpL.flat [u1, u2, (eB x), undef, undef, undef, (.bool false), (.bool true), (.bool false), u1, (eN la.length), (.bool false), (.bool false), u2, (eN lb.length), (.bool (decide (40 < lb.length))), (.bool (decide (40 < lb.length))), u1, (eB x), (eB (evP la x)), u1, (eB x), (eB (evP la x)), (.bool true), (.bool true), u1, u2, u9, (eB x), (eB (evP (addP la lb) x)), u1, (eB x), (eB (evP la x)), u2, (eB x), (eB (evP lb x)), (eB ((evP la x) ^^^ (evP lb x))), (.bool true), (.bool true), (.bool true), u1, u2, u19, (eB x), (eB (evP (mulP la lb) x)), u1, (eB x), undef, undef, undef, undef, undef, undef, undef] (by kernel_rfl) ?_
      refine wpL.on rfl rfl rfl (Nat.le_of_ble_eq_true rfl) rfl (d_call (xl := [.tmp 45, .tmp 46]) (al := [u1, (eB x)]) Try.func14 (by kernel_rfl) rfl rfl rfl (eval_ok la u1 x _ (Ps.no h1) (by first | omega | (simp; done) | (simp; omega)))) ?_
      rintro _ w23 ⟨rfl, o24⟩
      replace h1 := h1.step0 o24
      replace h2 := h2.step0 o24
      replace f10 := f10.step0 o24
      replace f20 := f20.step0 o24
      replace oW := oW.tail0 o24
      refine wpL.onis (v := u2) rfl rfl rfl (Nat.le_of_ble_eq_true rfl) rfl (d_move (v := u2) rfl) ?_
      refine wpL.onis (v := (eB x)) rfl rfl rfl (Nat.le_of_ble_eq_true rfl) rfl (d_move (v := (eB x)) rfl) ?_
      refine wpL.flat [u1, u2, (eB x), undef, undef, undef, (.bool false), (.bool true), (.bool false), u1, (eN la.length), (.bool false), (.bool false), u2, (eN lb.length), (.bool (decide (40 < lb.length))), (.bool (decide (40 < lb.length))), u1, (eB x), (eB (evP la x)), u1, (eB x), (eB (evP la x)), (.bool true), (.bool true), u1, u2, u9, (eB x), (eB (evP (addP la lb) x)), u1, (eB x), (eB (evP la x)), u2, (eB x), (eB (evP lb x)), (eB ((evP la x) ^^^ (evP lb x))), (.bool true), (.bool true), (.bool true), u1, u2, u19, (eB x), (eB (evP (mulP la lb) x)), u1, (eB x), (eB (evP la x)), u2, (eB x), undef, undef, undef, undef] (by kernel_rfl) ?_
      refine wpL.on rfl rfl rfl (Nat.le_of_ble_eq_true rfl) rfl (d_call (xl := [.tmp 48, .tmp 49]) (al := [u2, (eB x)]) Try.func14 (by kernel_rfl) rfl rfl rfl (eval_ok lb u2 x _ (Ps.no h2) (by first | omega | (simp; done) | (simp; omega)))) ?_
      rintro _ w25 ⟨rfl, o26⟩
      replace h1 := h1.step0 o26
      replace h2 := h2.step0 o26
      replace f10 := f10.step0 o26
      replace f20 := f20.step0 o26
      replace oW := oW.tail0 o26
      refine wpL.on rfl rfl rfl (Nat.le_of_ble_eq_true rfl) rfl (d_call (xl := [.tmp 47, .tmp 50]) (al := [(eB (evP la x)), (eB (evP lb x))]) Try.func20 (by kernel_rfl) rfl rfl rfl (ref2Mul_ok (evP la x) (evP lb x) _)) ?_
      rintro _ w27 ⟨rfl, o28⟩
      replace h1 := h1.step0 o28
      replace h2 := h2.step0 o28
      replace f10 := f10.step0 o28
      replace f20 := f20.step0 o28
      replace oW := oW.tail0 o28
      refine wpL.onis (v := (.bool true)) rfl rfl rfl (Nat.le_of_ble_eq_true rfl) rfl (b_eql (c := (evP (mulP la lb) x)) (e := (gm (evP la x) (evP lb x))) rfl rfl (decide_eq_true (evP_mulP la lb x))) ?_
      refine wpL.flat [u1, u2, (eB x), undef, undef, undef, (.bool false), (.bool true), (.bool false), u1, (eN la.length), (.bool false), (.bool false), u2, (eN lb.length), (.bool (decide (40 < lb.length))), (.bool (decide (40 < lb.length))), u1, (eB x), (eB (evP la x)), u1, (eB x), (eB (evP la x)), (.bool true), (.bool true), u1, u2, u9, (eB x), (eB (evP (addP la lb) x)), u1, (eB x), (eB (evP la x)), u2, (eB x), (eB (evP lb x)), (eB ((evP la x) ^^^ (evP lb x))), (.bool true), (.bool true), (.bool true), u1, u2, u19, (eB x), (eB (evP (mulP la lb) x)), u1, (eB x), (eB (evP la x)), u2, (eB x), (eB (evP lb x)), (eB (gm (evP la x) (evP lb x))), (.bool true), undef] (by kernel_rfl) ?_
      refine wpL.is (v := (.bool true)) rfl (d_pick (b := true) (v := (.bool true)) rfl rfl) ?_
      refine wpL.is (v := (.bool true)) rfl (d_assign (v := (.bool true)) rfl) ?_
      refine wpL.flat [u1, u2, (eB x), undef, undef, undef, (.bool true), (.bool true), (.bool false), u1, (eN la.length), (.bool false), (.bool false), u2, (eN lb.length), (.bool (decide (40 < lb.length))), (.bool (decide (40 < lb.length))), u1, (eB x), (eB (evP la x)), u1, (eB x), (eB (evP la x)), (.bool true), (.bool true), u1, u2, u9, (eB x), (eB (evP (addP la lb) x)), u1, (eB x), (eB (evP la x)), u2, (eB x), (eB (evP lb x)), (eB ((evP la x) ^^^ (evP lb x))), (.bool true), (.bool true), (.bool true), u1, u2, u19, (eB x), (eB (evP (mulP la lb) x)), u1, (eB x), (eB (evP la x)), u2, (eB x), (eB (evP lb x)), (eB (gm (evP la x) (evP lb x))), (.bool true), (.bool true)] (by kernel_rfl) ?_
      refine wpL.done ?_
      refine then_n ?_
      refine wpIn_ret ?_
      refine leave0 (v := (.bool true)) (res1 Try.results5 rfl) ?_
      exact ⟨rfl, oW⟩

set_option maxRecDepth 20000 in
set_option maxHeartbeats 1000000 in
theorem polyTwo_ok (la lb : List UInt8) (u1 u2 : Value) (W : World) (h1 : Ps No (Seq kB la u1) W) (h2 : Ps No (Seq kB lb u2) W) :
    CW Try.prog 8 #[u1, u2] W (Rt (RIs (.bool true) W)) := by
  have oW : Only No W W := Only.refl _ _
  refine enter (al := [u1, u2]) (k := 81) (l := [u1, u2, undef, undef, undef, undef, undef, undef, undef, undef, undef, undef, undef, undef, undef, undef, undef, undef, undef, undef, undef, undef, undef, undef, undef, undef, undef, undef, undef, undef, undef, undef, undef, undef, undef, undef, undef, undef, undef, undef, undef, undef, undef, undef, undef, undef, undef, undef, undef, undef, undef, undef, undef, undef, undef, undef, undef, undef, undef, undef, undef, undef, undef, undef, undef, undef, undef, undef, undef, undef, undef, undef, undef, undef, undef, undef, undef, undef, undef, undef, undef, undef, undef]) Try.func8 rfl Try.ntmps8 rfl rfl ?_
  refine wpIn_seq ?_
  refine plain ?_
  refine wpL.is (v := (.bool false)) rfl (d_assign (v := (.bool false)) rfl) ?_
  refine wpL.flat [u1, u2, undef, undef, (.bool false), undef, undef, undef, undef, undef, undef, undef, undef, undef, undef, undef, undef, undef, undef, undef, undef, undef, undef, undef, undef, undef, undef, undef, undef, undef, undef, undef, undef, undef, undef, undef, undef, undef, undef, undef, undef, undef, undef, undef, undef, undef, undef, undef, undef, undef, undef, undef, undef, undef, undef, undef, undef, undef, undef, undef, undef, undef, undef, undef, undef, undef, undef, undef, undef, undef, undef, undef, undef, undef, undef, undef, undef, undef, undef, undef, undef, undef, undef] (by kernel_rfl) ?_
  refine wpL.done ?_
  refine then_n ?_
  refine wpIn_seq ?_
  refine wpIn_seq ?_
  refine plain ?_
  refine wpL.op rfl (d_call (xl := []) (al := []) Try.func10 (by kernel_rfl) rfl rfl rfl (known_ok _)) ?_
  rintro _ w1 ⟨rfl, o2⟩
  replace h1 := h1.step0 o2
  replace h2 := h2.step0 o2
  replace oW := oW.tail0 o2
  refine wpL.is (v := (.bool false)) rfl (d_not rfl rfl) ?_
  refine wpL.flat [u1, u2, undef, undef, (.bool false), undef, undef, undef, undef, undef, undef, (.bool true), (.bool false), undef, undef, undef, undef, undef, undef, undef, undef, undef, undef, undef, undef, undef, undef, undef, undef, undef, undef, undef, undef, undef, undef, undef, undef, undef, undef, undef, undef, undef, undef, undef, undef, undef, undef, undef, undef, undef, undef, undef, undef, undef, undef, undef, undef, undef, undef, undef, undef, undef, undef, undef, undef, undef, undef, undef, undef, undef, undef, undef, undef, undef, undef, undef, undef, undef, undef, undef, undef, undef, undef] (by kernel_rfl) ?_
  refine wpL.done ?_
  refine then_n ?_
  refine cond_f rfl ?_
  refine wpIn_skip ?_
  refine then_n ?_
  refine wpIn_seq ?_
  refine wpIn_seq ?_
  by_cases k1 : 40 < la.length
  · skip
    refine plain ?_
    refine wpL.is (v := u1) rfl (d_move (v := u1) rfl) ?_
    refine wpL.is (v := (eN la.length)) rfl (d_lenS rfl Try.underlying23 rfl h1) ?_
    refine wpL.is (v := (.bool true)) rfl (n_gtr (a := la.length) (b := 40) rfl rfl (decide_eq_true k1)) ?_
    refine wpL.flat [u1, u2, undef, undef, (.bool false), undef, undef, undef, undef, undef, undef, (.bool true), (.bool false), u1, (eN la.length), (.bool true), undef, undef, undef, undef, undef, undef, undef, undef, undef, undef, undef, undef, undef, undef, undef, undef, undef, undef, undef, undef, undef, undef, undef, undef, undef, undef, undef, undef, undef, undef, undef, undef, undef, undef, undef, undef, undef, undef, undef, undef, undef, undef, undef, undef, undef, undef, undef, undef, undef, undef, undef, undef, undef, undef, undef, undef, undef, undef, undef, undef, undef, undef, undef, undef, undef, undef, undef] (by kernel_rfl) ?_
    refine wpL.is (v := (.bool true)) rfl (d_move (v := (.bool true)) rfl) ?_
    refine wpL.off rfl rfl rfl (Nat.le_of_ble_eq_true rfl) rfl ?_
    refine wpL.flat [u1, u2, undef, undef, (.bool false), undef, undef, undef, undef, undef, undef, (.bool true), (.bool false), u1, (eN la.length), (.bool true), (.bool true), undef, undef, undef, undef, undef, undef, undef, undef, undef, undef, undef, undef, undef, undef, undef, undef, undef, undef, undef, undef, undef, undef, undef, undef, undef, undef, undef, undef, undef, undef, undef, undef, undef, undef, undef, undef, undef, undef, undef, undef, undef, undef, undef, undef, undef, undef, undef, undef, undef, undef, undef, undef, undef, undef, undef, undef, undef, undef, undef, undef, undef, undef, undef, undef, undef, undef] (by kernel_rfl) ?_
    refine wpL.off rfl rfl rfl (Nat.le_of_ble_eq_true rfl) rfl ?_
    refine wpL.off rfl rfl rfl (Nat.le_of_ble_eq_true rfl) rfl ?_
    refine wpL.is (v := (.bool true)) rfl (d_pick (b := true) (v := (.bool true)) rfl rfl) ?_
    refine wpL.flat [u1, u2, undef, undef, (.bool false), undef, undef, undef, undef, undef, undef, (.bool true), (.bool false), u1, (eN la.length), (.bool true), (.bool true), undef, undef, undef, (.bool true), undef, undef, undef, undef, undef, undef, undef, undef, undef, undef, undef, undef, undef, undef, undef, undef, undef, undef, undef, undef, undef, undef, undef, undef, undef, undef, undef, undef, undef, undef, undef, undef, undef, undef, undef, undef, undef, undef, undef, undef, undef, undef, undef, undef, undef, undef, undef, undef, undef, undef, undef, undef, undef, undef, undef, undef, undef, undef, undef, undef, undef, undef] (by kernel_rfl) ?_
    refine wpL.done ?_
    refine then_n ?_
    refine cond_t rfl ?_
    refine wpIn_seq ?_
    refine plain ?_
    refine wpL.is (v := (.bool true)) rfl (d_assign (v := (.bool true)) rfl) ?_
    refine wpL.flat [u1, u2, undef, undef, (.bool true), undef, undef, undef, undef, undef, undef, (.bool true), (.bool false), u1, (eN la.length), (.bool true), (.bool true), undef, undef, undef, (.bool true), undef, undef, undef, undef, undef, undef, undef, undef, undef, undef, undef, undef, undef, undef, undef, undef, undef, undef, undef, undef, undef, undef, undef, undef, undef, undef, undef, undef, undef, undef, undef, undef, undef, undef, undef, undef, undef, undef, undef, undef, undef, undef, undef, undef, undef, undef, undef, undef, undef, undef, undef, undef, undef, undef, undef, undef, undef, undef, undef, undef, undef, undef] (by kernel_rfl) ?_
    refine wpL.done ?_
    refine then_n ?_
    refine wpIn_ret ?_
    refine then_r ?_
    refine leave0 (v := (.bool true)) (res1 Try.results8 rfl) ?_
    exact ⟨rfl, oW⟩
  · skip
    refine plain ?_
    refine wpL.is (v := u1) rfl (d_move (v := u1) rfl) ?_
    refine wpL.is (v := (eN la.length)) rfl (d_lenS rfl Try.underlying23 rfl h1) ?_
    refine wpL.is (v := (.bool false)) rfl (n_gtr (a := la.length) (b := 40) rfl rfl (decide_eq_false k1)) ?_
    refine wpL.flat [u1, u2, undef, undef, (.bool false), undef, undef, undef, undef, undef, undef, (.bool true), (.bool false), u1, (eN la.length), (.bool false), undef, undef, undef, undef, undef, undef, undef, undef, undef, undef, undef, undef, undef, undef, undef, undef, undef, undef, undef, undef, undef, undef, undef, undef, undef, undef, undef, undef, undef, undef, undef, undef, undef, undef, undef, undef, undef, undef, undef, undef, undef, undef, undef, undef, undef, undef, undef, undef, undef, undef, undef, undef, undef, undef, undef, undef, undef, undef, undef, undef, undef, undef, undef, undef, undef, undef, undef] (by kernel_rfl) ?_
    refine wpL.is (v := (.bool false)) rfl (d_move (v := (.bool false)) rfl) ?_
    refine wpL.onis (v := u2) rfl rfl rfl (Nat.le_of_ble_eq_true rfl) rfl (d_move (v := u2) rfl) ?_
    refine wpL.onis (v := (eN lb.length)) rfl rfl rfl (Nat.le_of_ble_eq_true rfl) rfl (d_lenS rfl Try.underlying23 rfl h2) ?_
    refine wpL.flat [u1, u2, undef, undef, (.bool false), undef, undef, undef, undef, undef, undef, (.bool true), (.bool false), u1, (eN la.length), (.bool false), (.bool false), u2, (eN lb.length), undef, undef, undef, undef, undef, undef, undef, undef, undef, undef, undef, undef, undef, undef, undef, undef, undef, undef, undef, undef, undef, undef, undef, undef, undef, undef, undef, undef, undef, undef, undef, undef, undef, undef, undef, undef, undef, undef, undef, undef, undef, undef, undef, undef, undef, undef, undef, undef, undef, undef, undef, undef, undef, undef, undef, undef, undef, undef, undef, undef, undef, undef, undef, undef] (by kernel_rfl) ?_
    refine wpL.onis (v := (.bool (decide (40 < lb.length)))) rfl rfl rfl (Nat.le_of_ble_eq_true rfl) rfl (n_gtr (a := lb.length) (b := 40) rfl rfl rfl) ?_
    refine wpL.is (v := (.bool (decide (40 < lb.length)))) rfl (d_pick (b := false) (v := (.bool (decide (40 < lb.length)))) rfl rfl) ?_
    refine wpL.flat [u1, u2, undef, undef, (.bool false), undef, undef, undef, undef, undef, undef, (.bool true), (.bool false), u1, (eN la.length), (.bool false), (.bool false), u2, (eN lb.length), (.bool (decide (40 < lb.length))), (.bool (decide (40 < lb.length))), undef, undef, undef, undef, undef, undef, undef, undef, undef, undef, undef, undef, undef, undef, undef, undef, undef, undef, undef, undef, undef, undef, undef, undef, undef, undef, undef, undef, undef, undef, undef, undef, undef, undef, undef, undef, undef, undef, undef, undef, undef, undef, undef, undef, undef, undef, undef, undef, undef, undef, undef, undef, undef, undef, undef, undef, undef, undef, undef, undef, undef, undef] (by kernel_rfl) ?_
    refine wpL.done ?_
    refine then_n ?_
    refine cond_if rfl (fun k2 => ?_) (fun k2 => ?_)
    · skip
      refine wpIn_seq ?_
      refine plain ?_
      refine wpL.is (v := (.bool true)) rfl (d_assign (v := (.bool true)) rfl) ?_
      refine wpL.flat [u1, u2, undef, undef, (.bool true), undef, undef, undef, undef, undef, undef, (.bool true), (.bool false), u1, (eN la.length), (.bool false), (.bool false), u2, (eN lb.length), (.bool (decide (40 < lb.length))), (.bool (decide (40 < lb.length))), undef, undef, undef, undef, undef, undef, undef, undef, undef, undef, undef, undef, undef, undef, undef, undef, undef, undef, undef, undef, undef, undef, undef, undef, undef, undef, undef, undef, undef, undef, undef, undef, undef, undef, undef, undef, undef, undef, undef, undef, undef, undef, undef, undef, undef, undef, undef, undef, undef, undef, undef, undef, undef, undef, undef, undef, undef, undef, undef, undef, undef, undef] (by kernel_rfl) ?_
      refine wpL.done ?_
      refine then_n ?_
      refine wpIn_ret ?_
      refine then_r ?_
      refine leave0 (v := (.bool true)) (res1 Try.results8 rfl) ?_
      exact ⟨rfl, oW⟩
    · skip
      refine wpIn_skip ?_
      refine then_n ?_
      refine wpIn_seq ?_
      refine plain ?_
      refine wpL.is (v := u1) rfl (d_move (v := u1) rfl) ?_
      refine wpL.is (v := u2) rfl (d_move (v := u2) rfl) ?_
      refine wpL.op rfl (d_call (xl := [.tmp 22, .tmp 23]) (al := [u1, u2]) Try.func21 (by kernel_rfl) rfl rfl rfl (div_ok la lb u1 u2 _ (Ps.no h1) (Ps.no h2) (by first | omega | (simp; done) | (simp; omega)) (by first | omega | (simp; done) | (simp; omega)))) ?_
      rintro _ w3 ⟨u5, u7, rfl, f6, f8, o4⟩
      replace f6 := f6.less (Y := (Old W.heap.size)) (old_old oW.size)
      replace f8 := f8.less (Y := (Old W.heap.size)) (old_old oW.size)
      replace h1 := h1.step0 o4
      replace h2 := h2.step0 o4
      replace oW := oW.tail0 o4
      refine wpL.flat [u1, u2, undef, undef, (.bool false), undef, undef, undef, undef, undef, undef, (.bool true), (.bool false), u1, (eN la.length), (.bool false), (.bool false), u2, (eN lb.length), (.bool (decide (40 < lb.length))), (.bool (decide (40 < lb.length))), undef, u1, u2, (.tuple #[u5, u7, (.bool (isP lb))]), undef, undef, undef, undef, undef, undef, undef, undef, undef, undef, undef, undef, undef, undef, undef, undef, undef, undef, undef, undef, undef, undef, undef, undef, undef, undef, undef, undef, undef, undef, undef, undef, undef, undef, undef, undef, undef, undef, undef, undef, undef, undef, undef, undef, undef, undef, undef, undef, undef, undef, undef, undef, undef, undef, undef, undef, undef, undef] (by kernel_rfl) ?_
      refine wpL.is (v := (.tuple #[u5, u7, (.bool (isP lb))])) rfl (d_move (v := (.tuple #[u5, u7, (.bool (isP lb))])) rfl) ?_
      refine wpL.is (v := u5) rfl (d_extract (v := u5) rfl rfl) ?_
      refine wpL.is (v := u7) rfl (d_extract (v := u7) rfl rfl) ?_
      refine wpL.flat [u1, u2, undef, undef, (.bool false), undef, undef, undef, undef, undef, undef, (.bool true), (.bool false), u1, (eN la.length), (.bool false), (.bool false), u2, (eN lb.length), (.bool (decide (40 < lb.length))), (.bool (decide (40 < lb.length))), (.tuple #[u5, u7, (.bool (isP lb))]), u1, u2, (.tuple #[u5, u7, (.bool (isP lb))]), u5, u7, undef, undef, undef, undef, undef, undef, undef, undef, undef, undef, undef, undef, undef, undef, undef, undef, undef, undef, undef, undef, undef, undef, undef, undef, undef, undef, undef, undef, undef, undef, undef, undef, undef, undef, undef, undef, undef, undef, undef, undef, undef, undef, undef, undef, undef, undef, undef, undef, undef, undef, undef, undef, undef, undef, undef, undef] (by kernel_rfl) ?_
      refine wpL.is (v := (.bool (isP lb))) rfl (d_extract (v := (.bool (isP lb))) rfl rfl) ?_
      refine wpL.is (v := u5) rfl (d_assign (v := u5) rfl) ?_
      refine wpL.is (v := u7) rfl (d_assign (v := u7) rfl) ?_
      refine wpL.flat [u1, u2, undef, undef, (.bool false), u5, u7, undef, undef, undef, undef, (.bool true), (.bool false), u1, (eN la.length), (.bool false), (.bool false), u2, (eN lb.length), (.bool (decide (40 < lb.length))), (.bool (decide (40 < lb.length))), (.tuple #[u5, u7, (.bool (isP lb))]), u1, u2, (.tuple #[u5, u7, (.bool (isP lb))]), u5, u7, (.bool (isP lb)), undef, undef, undef, undef, undef, undef, undef, undef, undef, undef, undef, undef, undef, undef, undef, undef, undef, undef, undef, undef, undef, undef, undef, undef, undef, undef, undef, undef, undef, undef, undef, undef, undef, undef, undef, undef, undef, undef, undef, undef, undef, undef, undef, undef, undef, undef, undef, undef, undef, undef, undef, undef, undef, undef, undef] (by kernel_rfl) ?_
      refine wpL.is (v := (.bool (isP lb))) rfl (d_assign (v := (.bool (isP lb))) rfl) ?_
      refine wpL.flat [u1, u2, undef, undef, (.bool false), u5, u7, (.bool (isP lb)), undef, undef, undef, (.bool true), (.bool false), u1, (eN la.length), (.bool false), (.bool false), u2, (eN lb.length), (.bool (decide (40 < lb.length))), (.bool (decide (40 < lb.length))), (.tuple #[u5, u7, (.bool (isP lb))]), u1, u2, (.tuple #[u5, u7, (.bool (isP lb))]), u5, u7, (.bool (isP lb)), undef, undef, undef, undef, undef, undef, undef, undef, undef, undef, undef, undef, undef, undef, undef, undef, undef, undef, undef, undef, undef, undef, undef, undef, undef, undef, undef, undef, undef, undef, undef, undef, undef, undef, undef, undef, undef, undef, undef, undef, undef, undef, undef, undef, undef, undef, undef, undef, undef, undef, undef, undef, undef, undef, undef] (by kernel_rfl) ?_
      refine wpL.done ?_
      refine then_n ?_
      refine wpIn_seq ?_
      refine plain ?_
      refine wpL.is (v := u1) rfl (d_move (v := u1) rfl) ?_
      refine wpL.is (v := u2) rfl (d_move (v := u2) rfl) ?_
      refine wpL.op rfl (d_call (xl := [.tmp 29, .tmp 30]) (al := [u1, u2]) Try.func22 (by kernel_rfl) rfl rfl rfl (ref3Div_ok la lb u1 u2 _ (Ps.no h1) (Ps.no h2) (by first | omega | (simp; done) | (simp; omega)) (by first | omega | (simp; done) | (simp; omega)))) ?_
      rintro _ w11 ⟨u13, u15, rfl, f14, f16, o12⟩
      replace f14 := f14.less (Y := (Old W.heap.size)) (old_old oW.size)
      replace f16 := f16.less (Y := (Old W.heap.size)) (old_old oW.size)
      replace h1 := h1.step0 o12
      replace h2 := h2.step0 o12
      replace f6 := f6.step0 o12
      replace f8 := f8.step0 o12
      replace oW := oW.tail0 o12
      refine wpL.flat [u1, u2, undef, undef, (.bool false), u5, u7, (.bool (isP lb)), undef, undef, undef, (.bool true), (.bool false), u1, (eN la.length), (.bool false), (.bool false), u2, (eN lb.length), (.bool (decide (40 < lb.length))), (.bool (decide (40 < lb.length))), (.tuple #[u5, u7, (.bool (isP lb))]), u1, u2, (.tuple #[u5, u7, (.bool (isP lb))]), u5, u7, (.bool (isP lb)), undef, u1, u2, (.tuple #[u13, u15, (.bool (isP lb))]), undef, undef, undef, undef, undef, undef, undef, undef, undef, undef, undef, undef, undef, undef, undef, undef, undef, undef, undef, undef, undef, undef, undef, undef, undef, undef, undef, undef, undef, undef, undef, undef, undef, undef, undef, undef, undef, undef, undef, undef, undef, undef, undef, undef, undef, undef, undef, undef, undef, undef, undef] (by kernel_rfl) ?_
      refine wpL.is (v := (.tuple #[u13, u15, (.bool (isP lb))])) rfl (d_move (v := (.tuple #[u13, u15, (.bool (isP lb))])) rfl) ?_
      refine wpL.is (v := u13) rfl (d_extract (v := u13) rfl rfl) ?_
      refine wpL.is (v := u15) rfl (d_extract (v := u15) rfl rfl) ?_
      refine wpL.flat [u1, u2, undef, undef, (.bool false), u5, u7, (.bool (isP lb)), undef, undef, undef, (.bool true), (.bool false), u1, (eN la.length), (.bool false), (.bool false), u2, (eN lb.length), (.bool (decide (40 < lb.length))), (.bool (decide (40 < lb.length))), (.tuple #[u5, u7, (.bool (isP lb))]), u1, u2, (.tuple #[u5, u7, (.bool (isP lb))]), u5, u7, (.bool (isP lb)), (.tuple #[u13, u15, (.bool (isP lb))]), u1, u2, (.tuple #[u13, u15, (.bool (isP lb))]), u13, u15, undef, undef, undef, undef, undef, undef, undef, undef, undef, undef, undef, undef, undef, undef, undef, undef, undef, undef, undef, undef, undef, undef, undef, undef, undef, undef, undef, undef, undef, undef, undef, undef, undef, undef, undef, undef, undef, undef, undef, undef, undef, undef, undef, undef, undef, undef, undef, undef, undef] (by kernel_rfl) ?_
      refine wpL.is (v := (.bool (isP lb))) rfl (d_extract (v := (.bool (isP lb))) rfl rfl) ?_
      refine wpL.is (v := u13) rfl (d_assign (v := u13) rfl) ?_
      refine wpL.is (v := u15) rfl (d_assign (v := u15) rfl) ?_
      refine wpL.flat [u1, u2, undef, undef, (.bool false), u5, u7, (.bool (isP lb)), u13, u15, undef, (.bool true), (.bool false), u1, (eN la.length), (.bool false), (.bool false), u2, (eN lb.length), (.bool (decide (40 < lb.length))), (.bool (decide (40 < lb.length))), (.tuple #[u5, u7, (.bool (isP lb))]), u1, u2, (.tuple #[u5, u7, (.bool (isP lb))]), u5, u7, (.bool (isP lb)), (.tuple #[u13, u15, (.bool (isP lb))]), u1, u2, (.tuple #[u13, u15, (.bool (isP lb))]), u13, u15, (.bool (isP lb)), undef, undef, undef, undef, undef, undef, undef, undef, undef, undef, undef, undef, undef, undef, undef, undef, undef, undef, undef, undef, undef, undef, undef, undef, undef, undef, undef, undef, undef, undef, undef, undef, undef, undef, undef, undef, undef, undef, undef, undef, undef, undef, undef, undef, undef, undef, undef, undef] (by kernel_rfl) ?_
      refine wpL.is (v := (.bool (isP lb))) rfl (d_assign (v := (.bool (isP lb))) rfl) ?_
      refine wpL.flat [u1, u2, undef, undef, (.bool false), u5, u7, (.bool (isP lb)), u13, u15, (.bool (isP lb)), (.bool true), (.bool false), u1, (eN la.length), (.bool false), (.bool false), u2, (eN lb.length), (.bool (decide (40 < lb.length))), (.bool (decide (40 < lb.length))), (.tuple #[u5, u7, (.bool (isP lb))]), u1, u2, (.tuple #[u5, u7, (.bool (isP lb))]), u5, u7, (.bool (isP lb)), (.tuple #[u13, u15, (.bool (isP lb))]), u1, u2, (.tuple #[u13, u15, (.bool (isP lb))]), u13, u15, (.bool (isP lb)), undef, undef, undef, undef, undef, undef, undef, undef, undef, undef, undef, undef, undef, undef, undef, undef, undef, undef, undef, undef, undef, undef, undef, undef, undef, undef, undef, undef, undef, undef, undef, undef, undef, undef, undef, undef, undef, undef, undef, undef, undef, undef, undef, undef, undef, undef, undef, undef] (by kernel_rfl) ?_
      refine wpL.done ?_
      refine then_n ?_
      refine wpIn_seq ?_
      refine drawn' (O := No) (n := 49) [0, 0, 3, 7, 0, 0, 55, 119, 255, 511, 1023, 1023, 4095, 8191, 1023, 1023, 57343, 122879, 262143, 524287, 1048575, 2097151, 4194303, 2097151, 10485759, 33554431, 67108863, 134217727, 268435455, 536870911, 268435455, 1342177279, 4294967295, 8589934591, 17179869183, 34359738367, 34359738367, 137438953471, 274877906943, 549755813887, 1099511627775, 2199023255551, 4398046511103, 1099511627775, 13194139533311, 30786325577727, 70368744177663, 140737488355327, 281474976710655] [(0, 35), (1, 36), (2, 37), (3, 38), (4, 39), (5, 40), (6, 41), (7, 42), (8, 43), (9, 44), (10, 45), (11, 46), (12, 47), (13, 48), (14, 49), (15, 50), (16, 51), (17, 52), (18, 53), (19, 54), (20, 55), (21, 56), (22, 57), (23, 58), (24, 59), (25, 60), (26, 61), (27, 62), (28, 63), (29, 64), (30, 65), (31, 66), (32, 67), (33, 68), (34, 69), (35, 70), (36, 71), (37, 72), (38, 73), (39, 74), (40, 75), (41, 76), (42, 77), (43, 78), (44, 79), (45, 80), (46, 81), (47, 82), (48, 4)] [0, 1, 2, 3, 4, 5, 6, 7, 8, 9, 10, 11, 12, 13, 14, 15, 16, 17, 18, 19, 20, 21, 22, 23, 24, 25, 26, 27, 28, 29, 30, 31, 32, 33, 34, 35, 36, 37, 38, 39, 40, 41, 42, 43, 44, 45, 46, 47, 48] [] (fun i_ => ([RF.is No u1, RF.is No u2, RF.ps No (Old W.heap.size) (Seq kB (addP la lb)) no_any, RF.is No (.string (strOf (addP la lb))), RF.is No u1, RF.is No u2, RF.ps No (Old W.heap.size) (Seq kB (addP la lb)) no_any, RF.is No (.string (strOf (addP la lb))), RF.is No (.bool true), RF.is No (.bool true), RF.is No u1, RF.is No u2, RF.ps No (Old W.heap.size) (Seq kB (mulP la lb)) no_any, RF.is No (.string (strOf (mulP la lb))), RF.is No u1, RF.is No u2, RF.ps No (Old W.heap.size) (Seq kB (mulP la lb)) no_any, RF.is No (.string (strOf (mulP la lb))), RF.is No (.bool true), RF.is No (.bool true), RF.is No (.bool true), RF.is No u5, RF.is No (.string (strOf (quoP la lb))), RF.is No u13, RF.is No (.string (strOf (quoP la lb))), RF.is No (.bool true), RF.is No (.bool true), RF.is No (.bool true), RF.is No u7, RF.is No (.string (strOf (remP la lb))), RF.is No u15, RF.is No (.string (strOf (remP la lb))), RF.is No (.bool true), RF.is No (.bool true), RF.is No (.bool true), RF.is No (.bool (isP lb)), RF.is No (.bool (isP lb)), RF.is No (.bool true), RF.is No (.bool true), RF.is No (.bool true), RF.is No u1, RF.ps No (Old W.heap.size) (Seq kB (trimL la)) no_any, RF.is No (.string (strOf (trimL la))), RF.is No u1, RF.ps No (Old W.heap.size) (Seq kB (trimL la)) no_any, RF.is No (.string (strOf (trimL la))), RF.is No (.bool true), RF.is No (.bool true), RF.is No (.bool true)] : List (RF No)).getD i_ (RF.any No)) (fun _ w_ => True) (fun v19 => [u1, u2, undef, undef, (v19 48), u5, u7, (.bool (isP lb)), u13, u15, (.bool (isP lb)), (.bool true), (.bool false), u1, (eN la.length), (.bool false), (.bool false), u2, (eN lb.length), (.bool (decide (40 < lb.length))), (.bool (decide (40 < lb.length))), (.tuple #[u5, u7, (.bool (isP lb))]), u1, u2, (.tuple #[u5, u7, (.bool (isP lb))]), u5, u7, (.bool (isP lb)), (.tuple #[u13, u15, (.bool (isP lb))]), u1, u2, (.tuple #[u13, u15, (.bool (isP lb))]), u13, u15, (.bool (isP lb)), (v19 0), (v19 1), (v19 2), (v19 3), (v19 4), (v19 5), (v19 6), (v19 7), (v19 8), (v19 9), (v19 10), (v19 11), (v19 12), (v19 13), (v19 14), (v19 15), (v19 16), (v19 17), (v19 18), (v19 19), (v19 20), (v19 21), (v19 22), (v19 23), (v19 24), (v19 25), (v19 26), (v19 27), (v19 28), (v19 29), (v19 30), (v19 31), (v19 32), (v19 33), (v19 34), (v19 35), (v19 36), (v19 37), (v19 38), (v19 39), (v19 40), (v19 41), (v19 42), (v19 43), (v19 44), (v19 45), (v19 46), (v19 47)]) s_mx (by kernel_rfl) rfl (by decide) (by rfl) (fun v_ => by kernel_rfl) (fun _ => fun _ _ _ _ => trivial) trivial ?_ ?_ ?_
      · skip
        refine ls_cons ?_ ?_
        · intro v19 lo hi w_ k_ hO hd _ _ hk_ _ hR hold
          clear hd hold
          refine ⟨_, rfl, gd rfl ?_⟩
          exact Does.is (d_move (v := u1) rfl)
        refine ls_cons ?_ ?_
        · intro v19 lo hi w_ k_ hO hd _ _ hk_ _ hR hold
          clear hd hold
          refine ⟨_, rfl, gd rfl ?_⟩
          exact Does.is (d_move (v := u2) rfl)
        refine ls_cons ?_ ?_
        · intro v19 lo hi w_ k_ hO hd _ _ hk_ _ hR hold
          have e0 : v19 0 = u1 := hd 0 (by kernel_rfl)
          have e1 : v19 1 = u2 := hd 1 (by kernel_rfl)
          clear hd hold
          refine ⟨_, rfl, gd rfl ?_⟩
          refine Does.mono (R := ROw 5 eB (addP la lb) w_) ?_ (fun u w' h => ⟨(h.ps).1.less (old_old (Nat.le_trans oW.size hO.size)), (h.ps).2⟩)
          exact d_call (xl := [.tmp 35, .tmp 36]) (al := [u1, u2]) Try.func17 (by kernel_rfl) rfl (show ([(v19 0), (v19 1)] : List Value) = [u1, u2] from by rw [e0, e1]) rfl (add_ok la lb u1 u2 _ (Ps.no (h1.step hO no_any)) (Ps.no (h2.step hO no_any)) (by first | omega | (simp; done) | (simp; omega)) (by first | omega | (simp; done) | (simp; omega)))
        refine ls_cons ?_ ?_
        · intro v19 lo hi w_ k_ hO hd _ _ hk_ _ hR hold
          have d2 : Ps (Old W.heap.size) (Seq kB (addP la lb) (v19 2)) w_ := hd 2 (by kernel_rfl)
          clear hd hold
          refine ⟨_, rfl, gd rfl ?_⟩
          exact Does.is (d_str Try.underlying23 Try.underlying5 Try.underlying9 rfl d2)
        refine ls_cons ?_ ?_
        · intro v19 lo hi w_ k_ hO hd _ _ hk_ _ hR hold
          clear hd hold
          refine ⟨_, rfl, gd rfl ?_⟩
          exact Does.is (d_move (v := u1) rfl)
        refine ls_cons ?_ ?_
        · intro v19 lo hi w_ k_ hO hd _ _ hk_ _ hR hold
          clear hd hold
          refine ⟨_, rfl, gd rfl ?_⟩
          exact Does.is (d_move (v := u2) rfl)
        refine ls_cons ?_ ?_
        · intro v19 lo hi w_ k_ hO hd _ _ hk_ _ hR hold
          have e4 : v19 4 = u1 := hd 4 (by kernel_rfl)
          have e5 : v19 5 = u2 := hd 5 (by kernel_rfl)
          clear hd hold
          refine ⟨_, rfl, gd rfl ?_⟩
          refine Does.mono (R := ROw 5 eB (addP la lb) w_) ?_ (fun u w' h => ⟨(h.ps).1.less (old_old (Nat.le_trans oW.size hO.size)), (h.ps).2⟩)
          exact d_call (xl := [.tmp 39, .tmp 40]) (al := [u1, u2]) Try.func23 (by kernel_rfl) rfl (show ([(v19 4), (v19 5)] : List Value) = [u1, u2] from by rw [e4, e5]) rfl (ref3Add_ok la lb u1 u2 _ (Ps.no (h1.step hO no_any)) (Ps.no (h2.step hO no_any)) (by first | omega | (simp; done) | (simp; omega)) (by first | omega | (simp; done) | (simp; omega)))
        refine ls_cons ?_ ?_
        · intro v19 lo hi w_ k_ hO hd _ _ hk_ _ hR hold
          have d6 : Ps (Old W.heap.size) (Seq kB (addP la lb) (v19 6)) w_ := hd 6 (by kernel_rfl)
          clear hd hold
          refine ⟨_, rfl, gd rfl ?_⟩
          exact Does.is (d_str Try.underlying23 Try.underlying5 Try.underlying9 rfl d6)
        refine ls_cons ?_ ?_
        · intro v19 lo hi w_ k_ hO hd _ _ hk_ _ hR hold
          have e3 : v19 3 = (.string (strOf (addP la lb))) := hd 3 (by kernel_rfl)
          have e7 : v19 7 = (.string (strOf (addP la lb))) := hd 7 (by kernel_rfl)
          clear hd hold
          refine ⟨_, rfl, gd rfl ?_⟩
          exact Does.is (d_seql (a := (addP la lb)) (c := (addP la lb)) e3 e7 (decide_eq_true rfl))
        refine ls_cons ?_ ?_
        · intro v19 lo hi w_ k_ hO hd _ _ hk_ _ hR hold
          have e8 : v19 8 = (.bool true) := hd 8 (by kernel_rfl)
          clear hd hold
          refine ⟨_, rfl, gd rfl ?_⟩
          exact Does.is (d_move (v := (.bool true)) e8)
        refine ls_cons ?_ ?_
        · intro v19 lo hi w_ k_ hO hd _ _ hk_ _ hR hold
          have e9 : v19 9 = (.bool true) := hd 9 (by kernel_rfl)
          clear hd hold
          refine ⟨_, rfl, gd_on rfl rfl rfl (Nat.le_of_ble_eq_true rfl) e9 ?_⟩
          exact Does.is (d_move (v := u1) rfl)
        refine ls_cons ?_ ?_
        · intro v19 lo hi w_ k_ hO hd _ _ hk_ _ hR hold
          have e9 : v19 9 = (.bool true) := hd 9 (by kernel_rfl)
          clear hd hold
          refine ⟨_, rfl, gd_on rfl rfl rfl (Nat.le_of_ble_eq_true rfl) e9 ?_⟩
          exact Does.is (d_move (v := u2) rfl)
        refine ls_cons ?_ ?_
        · intro v19 lo hi w_ k_ hO hd _ _ hk_ _ hR hold
          have e10 : v19 10 = u1 := hd 10 (by kernel_rfl)
          have e11 : v19 11 = u2 := hd 11 (by kernel_rfl)
          have e9 : v19 9 = (.bool true) := hd 9 (by kernel_rfl)
          clear hd hold
          refine ⟨_, rfl, gd_on rfl rfl rfl (Nat.le_of_ble_eq_true rfl) e9 ?_⟩
          refine Does.mono (R := ROw 5 eB (mulP la lb) w_) ?_ (fun u w' h => ⟨(h.ps).1.less (old_old (Nat.le_trans oW.size hO.size)), (h.ps).2⟩)
          exact d_call (xl := [.tmp 45, .tmp 46]) (al := [u1, u2]) Try.func16 (by kernel_rfl) rfl (show ([(v19 10), (v19 11)] : List Value) = [u1, u2] from by rw [e10, e11]) rfl (mul_ok la lb u1 u2 _ (Ps.no (h1.step hO no_any)) (Ps.no (h2.step hO no_any)) (by first | omega | (simp; done) | (simp; omega)) (by first | omega | (simp; done) | (simp; omega)))
        refine ls_cons ?_ ?_
        · intro v19 lo hi w_ k_ hO hd _ _ hk_ _ hR hold
          have d12 : Ps (Old W.heap.size) (Seq kB (mulP la lb) (v19 12)) w_ := hd 12 (by kernel_rfl)
          have e9 : v19 9 = (.bool true) := hd 9 (by kernel_rfl)
          clear hd hold
          refine ⟨_, rfl, gd_on rfl rfl rfl (Nat.le_of_ble_eq_true rfl) e9 ?_⟩
          exact Does.is (d_str Try.underlying23 Try.underlying5 Try.underlying9 rfl d12)
        refine ls_cons ?_ ?_
        · intro v19 lo hi w_ k_ hO hd _ _ hk_ _ hR hold
          have e9 : v19 9 = (.bool true) := hd 9 (by kernel_rfl)
          clear hd hold
          refine ⟨_, rfl, gd_on rfl rfl rfl (Nat.le_of_ble_eq_true rfl) e9 ?_⟩
          exact Does.is (d_move (v := u1) rfl)
        refine ls_cons ?_ ?_
        · intro v19 lo hi w_ k_ hO hd _ _ hk_ _ hR hold
          have e9 : v19 9 = (.bool true) := hd 9 (by kernel_rfl)
          clear hd hold
          refine ⟨_, rfl, gd_on rfl rfl rfl (Nat.le_of_ble_eq_true rfl) e9 ?_⟩
          exact Does.is (d_move (v := u2) rfl)
        refine ls_cons ?_ ?_
        · intro v19 lo hi w_ k_ hO hd _ _ hk_ _ hR hold
          have e14 : v19 14 = u1 := hd 14 (by kernel_rfl)
          have e15 : v19 15 = u2 := hd 15 (by kernel_rfl)
          have e9 : v19 9 = (.bool true) := hd 9 (by kernel_rfl)
          clear hd hold
          refine ⟨_, rfl, gd_on rfl rfl rfl (Nat.le_of_ble_eq_true rfl) e9 ?_⟩
          refine Does.mono (R := ROw 5 eB (mulP la lb) w_) ?_ (fun u w' h => ⟨(h.ps).1.less (old_old (Nat.le_trans oW.size hO.size)), (h.ps).2⟩)
          exact d_call (xl := [.tmp 49, .tmp 50]) (al := [u1, u2]) Try.func24 (by kernel_rfl) rfl (show ([(v19 14), (v19 15)] : List Value) = [u1, u2] from by rw [e14, e15]) rfl (ref3Mul_ok la lb u1 u2 _ (Ps.no (h1.step hO no_any)) (Ps.no (h2.step hO no_any)) (by first | omega | (simp; done) | (simp; omega)) (by first | omega | (simp; done) | (simp; omega)))
        refine ls_cons ?_ ?_
        · intro v19 lo hi w_ k_ hO hd _ _ hk_ _ hR hold
          have d16 : Ps (Old W.heap.size) (Seq kB (mulP la lb) (v19 16)) w_ := hd 16 (by kernel_rfl)
          have e9 : v19 9 = (.bool true) := hd 9 (by kernel_rfl)
          clear hd hold
          refine ⟨_, rfl, gd_on rfl rfl rfl (Nat.le_of_ble_eq_true rfl) e9 ?_⟩
          exact Does.is (d_str Try.underlying23 Try.underlying5 Try.underlying9 rfl d16)
        refine ls_cons ?_ ?_
        · intro v19 lo hi w_ k_ hO hd _ _ hk_ _ hR hold
          have e13 : v19 13 = (.string (strOf (mulP la lb))) := hd 13 (by kernel_rfl)
          have e17 : v19 17 = (.string (strOf (mulP la lb))) := hd 17 (by kernel_rfl)
          have e9 : v19 9 = (.bool true) := hd 9 (by kernel_rfl)
          clear hd hold
          refine ⟨_, rfl, gd_on rfl rfl rfl (Nat.le_of_ble_eq_true rfl) e9 ?_⟩
          exact Does.is (d_seql (a := (mulP la lb)) (c := (mulP la lb)) e13 e17 (decide_eq_true rfl))
        refine ls_cons ?_ ?_
        · intro v19 lo hi w_ k_ hO hd _ _ hk_ _ hR hold
          have e18 : v19 18 = (.bool true) := hd 18 (by kernel_rfl)
          have e9 : v19 9 = (.bool true) := hd 9 (by kernel_rfl)
          clear hd hold
          refine ⟨_, rfl, gd rfl ?_⟩
          exact Does.is (d_pick (b := true) (v := (.bool true)) e9 e18)
        refine ls_cons ?_ ?_
        · intro v19 lo hi w_ k_ hO hd _ _ hk_ _ hR hold
          have e19 : v19 19 = (.bool true) := hd 19 (by kernel_rfl)
          clear hd hold
          refine ⟨_, rfl, gd rfl ?_⟩
          exact Does.is (d_move (v := (.bool true)) e19)
        refine ls_cons ?_ ?_
        · intro v19 lo hi w_ k_ hO hd _ _ hk_ _ hR hold
          have e20 : v19 20 = (.bool true) := hd 20 (by kernel_rfl)
          clear hd hold
          refine ⟨_, rfl, gd_on rfl rfl rfl (Nat.le_of_ble_eq_true rfl) e20 ?_⟩
          exact Does.is (d_move (v := u5) rfl)
        refine ls_cons ?_ ?_
        · intro v19 lo hi w_ k_ hO hd _ _ hk_ _ hR hold
          have e20 : v19 20 = (.bool true) := hd 20 (by kernel_rfl)
          have e21 : v19 21 = u5 := hd 21 (by kernel_rfl)
          clear hd hold
          refine ⟨_, rfl, gd_on rfl rfl rfl (Nat.le_of_ble_eq_true rfl) e20 ?_⟩
          exact Does.is (d_str Try.underlying23 Try.underlying5 Try.underlying9 e21 (f6.step hO no_any))
        refine ls_cons ?_ ?_
        · intro v19 lo hi w_ k_ hO hd _ _ hk_ _ hR hold
          have e20 : v19 20 = (.bool true) := hd 20 (by kernel_rfl)
          clear hd hold
          refine ⟨_, rfl, gd_on rfl rfl rfl (Nat.le_of_ble_eq_true rfl) e20 ?_⟩
          exact Does.is (d_move (v := u13) rfl)
        refine ls_cons ?_ ?_
        · intro v19 lo hi w_ k_ hO hd _ _ hk_ _ hR hold
          have e20 : v19 20 = (.bool true) := hd 20 (by kernel_rfl)
          have e23 : v19 23 = u13 := hd 23 (by kernel_rfl)
          clear hd hold
          refine ⟨_, rfl, gd_on rfl rfl rfl (Nat.le_of_ble_eq_true rfl) e20 ?_⟩
          exact Does.is (d_str Try.underlying23 Try.underlying5 Try.underlying9 e23 (f14.step hO no_any))
        refine ls_cons ?_ ?_
        · intro v19 lo hi w_ k_ hO hd _ _ hk_ _ hR hold
          have e20 : v19 20 = (.bool true) := hd 20 (by kernel_rfl)
          have e22 : v19 22 = (.string (strOf (quoP la lb))) := hd 22 (by kernel_rfl)
          have e24 : v19 24 = (.string (strOf (quoP la lb))) := hd 24 (by kernel_rfl)
          clear hd hold
          refine ⟨_, rfl, gd_on rfl rfl rfl (Nat.le_of_ble_eq_true rfl) e20 ?_⟩
          exact Does.is (d_seql (a := (quoP la lb)) (c := (quoP la lb)) e22 e24 (decide_eq_true rfl))
        refine ls_cons ?_ ?_
        · intro v19 lo hi w_ k_ hO hd _ _ hk_ _ hR hold
          have e20 : v19 20 = (.bool true) := hd 20 (by kernel_rfl)
          have e25 : v19 25 = (.bool true) := hd 25 (by kernel_rfl)
          clear hd hold
          refine ⟨_, rfl, gd rfl ?_⟩
          exact Does.is (d_pick (b := true) (v := (.bool true)) e20 e25)
        refine ls_cons ?_ ?_
        · intro v19 lo hi w_ k_ hO hd _ _ hk_ _ hR hold
          have e26 : v19 26 = (.bool true) := hd 26 (by kernel_rfl)
          clear hd hold
          refine ⟨_, rfl, gd rfl ?_⟩
          exact Does.is (d_move (v := (.bool true)) e26)
        refine ls_cons ?_ ?_
        · intro v19 lo hi w_ k_ hO hd _ _ hk_ _ hR hold
          have e27 : v19 27 = (.bool true) := hd 27 (by kernel_rfl)
          clear hd hold
          refine ⟨_, rfl, gd_on rfl rfl rfl (Nat.le_of_ble_eq_true rfl) e27 ?_⟩
          exact Does.is (d_move (v := u7) rfl)
        refine ls_cons ?_ ?_
        · intro v19 lo hi w_ k_ hO hd _ _ hk_ _ hR hold
          have e27 : v19 27 = (.bool true) := hd 27 (by kernel_rfl)
          have e28 : v19 28 = u7 := hd 28 (by kernel_rfl)
          clear hd hold
          refine ⟨_, rfl, gd_on rfl rfl rfl (Nat.le_of_ble_eq_true rfl) e27 ?_⟩
          exact Does.is (d_str Try.underlying23 Try.underlying5 Try.underlying9 e28 (f8.step hO no_any))
        refine ls_cons ?_ ?_
        · intro v19 lo hi w_ k_ hO hd _ _ hk_ _ hR hold
          have e27 : v19 27 = (.bool true) := hd 27 (by kernel_rfl)
          clear hd hold
          refine ⟨_, rfl, gd_on rfl rfl rfl (Nat.le_of_ble_eq_true rfl) e27 ?_⟩
          exact Does.is (d_move (v := u15) rfl)
        refine ls_cons ?_ ?_
        · intro v19 lo hi w_ k_ hO hd _ _ hk_ _ hR hold
          have e27 : v19 27 = (.bool true) := hd 27 (by kernel_rfl)
          have e30 : v19 30 = u15 := hd 30 (by kernel_rfl)
          clear hd hold
          refine ⟨_, rfl, gd_on rfl rfl rfl (Nat.le_of_ble_eq_true rfl) e27 ?_⟩
          exact Does.is (d_str Try.underlying23 Try.underlying5 Try.underlying9 e30 (f16.step hO no_any))
        refine ls_cons ?_ ?_
        · intro v19 lo hi w_ k_ hO hd _ _ hk_ _ hR hold
          have e27 : v19 27 = (.bool true) := hd 27 (by kernel_rfl)
          have e29 : v19 29 = (.string (strOf (remP la lb))) := hd 29 (by kernel_rfl)
          have e31 : v19 31 = (.string (strOf (remP la lb))) := hd 31 (by kernel_rfl)
          clear hd hold
          refine ⟨_, rfl, gd_on rfl rfl rfl (Nat.le_of_ble_eq_true rfl) e27 ?_⟩
          exact Does.is (d_seql (a := (remP la lb)) (c := (remP la lb)) e29 e31 (decide_eq_true rfl))
        refine ls_cons ?_ ?_
        · intro v19 lo hi w_ k_ hO hd _ _ hk_ _ hR hold
          have e27 : v19 27 = (.bool true) := hd 27 (by kernel_rfl)
          have e32 : v19 32 = (.bool true) := hd 32 (by kernel_rfl)
          clear hd hold
          refine ⟨_, rfl, gd rfl ?_⟩
          exact Does.is (d_pick (b := true) (v := (.bool true)) e27 e32)
        refine ls_cons ?_ ?_
        · intro v19 lo hi w_ k_ hO hd _ _ hk_ _ hR hold
          have e33 : v19 33 = (.bool true) := hd 33 (by kernel_rfl)
          clear hd hold
          refine ⟨_, rfl, gd rfl ?_⟩
          exact Does.is (d_move (v := (.bool true)) e33)
        refine ls_cons ?_ ?_
        · intro v19 lo hi w_ k_ hO hd _ _ hk_ _ hR hold
          have e34 : v19 34 = (.bool true) := hd 34 (by kernel_rfl)
          clear hd hold
          refine ⟨_, rfl, gd_on rfl rfl rfl (Nat.le_of_ble_eq_true rfl) e34 ?_⟩
          exact Does.is (d_move (v := (.bool (isP lb))) rfl)
        refine ls_cons ?_ ?_
        · intro v19 lo hi w_ k_ hO hd _ _ hk_ _ hR hold
          have e34 : v19 34 = (.bool true) := hd 34 (by kernel_rfl)
          clear hd hold
          refine ⟨_, rfl, gd_on rfl rfl rfl (Nat.le_of_ble_eq_true rfl) e34 ?_⟩
          exact Does.is (d_move (v := (.bool (isP lb))) rfl)
        refine ls_cons ?_ ?_
        · intro v19 lo hi w_ k_ hO hd _ _ hk_ _ hR hold
          have e34 : v19 34 = (.bool true) := hd 34 (by kernel_rfl)
          have e35 : v19 35 = (.bool (isP lb)) := hd 35 (by kernel_rfl)
          have e36 : v19 36 = (.bool (isP lb)) := hd 36 (by kernel_rfl)
          clear hd hold
          refine ⟨_, rfl, gd_on rfl rfl rfl (Nat.le_of_ble_eq_true rfl) e34 ?_⟩
          exact Does.is (d_beql Try.underlying4 e35 e36 (by simp))
        refine ls_cons ?_ ?_
        · intro v19 lo hi w_ k_ hO hd _ _ hk_ _ hR hold
          have e34 : v19 34 = (.bool true) := hd 34 (by kernel_rfl)
          have e37 : v19 37 = (.bool true) := hd 37 (by kernel_rfl)
          clear hd hold
          refine ⟨_, rfl, gd rfl ?_⟩
          exact Does.is (d_pick (b := true) (v := (.bool true)) e34 e37)
        refine ls_cons ?_ ?_
        · intro v19 lo hi w_ k_ hO hd _ _ hk_ _ hR hold
          have e38 : v19 38 = (.bool true) := hd 38 (by kernel_rfl)
          clear hd hold
          refine ⟨_, rfl, gd rfl ?_⟩
          exact Does.is (d_move (v := (.bool true)) e38)
        refine ls_cons ?_ ?_
        · intro v19 lo hi w_ k_ hO hd _ _ hk_ _ hR hold
          have e39 : v19 39 = (.bool true) := hd 39 (by kernel_rfl)
          clear hd hold
          refine ⟨_, rfl, gd_on rfl rfl rfl (Nat.le_of_ble_eq_true rfl) e39 ?_⟩
          exact Does.is (d_move (v := u1) rfl)
        refine ls_cons ?_ ?_
        · intro v19 lo hi w_ k_ hO hd _ _ hk_ _ hR hold
          have e39 : v19 39 = (.bool true) := hd 39 (by kernel_rfl)
          have e40 : v19 40 = u1 := hd 40 (by kernel_rfl)
          clear hd hold
          refine ⟨_, rfl, gd_on rfl rfl rfl (Nat.le_of_ble_eq_true rfl) e39 ?_⟩
          refine Does.mono (R := ROw 5 eB (trimL la) w_) ?_ (fun u w' h => ⟨(h.ps).1.less (old_old (Nat.le_trans oW.size hO.size)), (h.ps).2⟩)
          exact d_call (xl := [.tmp 75]) (al := [u1]) Try.func18 (by kernel_rfl) rfl (show ([(v19 40)] : List Value) = [u1] from by rw [e40]) rfl (trim_ok la u1 _ (Ps.no (h1.step hO no_any)) (by first | omega | (simp; done) | (simp; omega)))
        refine ls_cons ?_ ?_
        · intro v19 lo hi w_ k_ hO hd _ _ hk_ _ hR hold
          have e39 : v19 39 = (.bool true) := hd 39 (by kernel_rfl)
          have d41 : Ps (Old W.heap.size) (Seq kB (trimL la) (v19 41)) w_ := hd 41 (by kernel_rfl)
          clear hd hold
          refine ⟨_, rfl, gd_on rfl rfl rfl (Nat.le_of_ble_eq_true rfl) e39 ?_⟩
          exact Does.is (d_str Try.underlying23 Try.underlying5 Try.underlying9 rfl d41)
        refine ls_cons ?_ ?_
        · intro v19 lo hi w_ k_ hO hd _ _ hk_ _ hR hold
          have e39 : v19 39 = (.bool true) := hd 39 (by kernel_rfl)
          clear hd hold
          refine ⟨_, rfl, gd_on rfl rfl rfl (Nat.le_of_ble_eq_true rfl) e39 ?_⟩
          exact Does.is (d_move (v := u1) rfl)
        refine ls_cons ?_ ?_
        · intro v19 lo hi w_ k_ hO hd _ _ hk_ _ hR hold
          have e39 : v19 39 = (.bool true) := hd 39 (by kernel_rfl)
          have e43 : v19 43 = u1 := hd 43 (by kernel_rfl)
          clear hd hold
          refine ⟨_, rfl, gd_on rfl rfl rfl (Nat.le_of_ble_eq_true rfl) e39 ?_⟩
          refine Does.mono (R := ROw 5 eB (trimL la) w_) ?_ (fun u w' h => ⟨(h.ps).1.less (old_old (Nat.le_trans oW.size hO.size)), (h.ps).2⟩)
          exact d_call (xl := [.tmp 78]) (al := [u1]) Try.func25 (by kernel_rfl) rfl (show ([(v19 43)] : List Value) = [u1] from by rw [e43]) rfl (ref3Trim_ok la u1 _ (Ps.no (h1.step hO no_any)) (by first | omega | (simp; done) | (simp; omega)))
        refine ls_cons ?_ ?_
        · intro v19 lo hi w_ k_ hO hd _ _ hk_ _ hR hold
          have e39 : v19 39 = (.bool true) := hd 39 (by kernel_rfl)
          have d44 : Ps (Old W.heap.size) (Seq kB (trimL la) (v19 44)) w_ := hd 44 (by kernel_rfl)
          clear hd hold
          refine ⟨_, rfl, gd_on rfl rfl rfl (Nat.le_of_ble_eq_true rfl) e39 ?_⟩
          exact Does.is (d_str Try.underlying23 Try.underlying5 Try.underlying9 rfl d44)
        refine ls_cons ?_ ?_
        · intro v19 lo hi w_ k_ hO hd _ _ hk_ _ hR hold
          have e39 : v19 39 = (.bool true) := hd 39 (by kernel_rfl)
          have e42 : v19 42 = (.string (strOf (trimL la))) := hd 42 (by kernel_rfl)
          have e45 : v19 45 = (.string (strOf (trimL la))) := hd 45 (by kernel_rfl)
          clear hd hold
          refine ⟨_, rfl, gd_on rfl rfl rfl (Nat.le_of_ble_eq_true rfl) e39 ?_⟩
          exact Does.is (d_seql (a := (trimL la)) (c := (trimL la)) e42 e45 (decide_eq_true rfl))
        refine ls_cons ?_ ?_
        · intro v19 lo hi w_ k_ hO hd _ _ hk_ _ hR hold
          have e39 : v19 39 = (.bool true) := hd 39 (by kernel_rfl)
          have e46 : v19 46 = (.bool true) := hd 46 (by kernel_rfl)
          clear hd hold
          refine ⟨_, rfl, gd rfl ?_⟩
          exact Does.is (d_pick (b := true) (v := (.bool true)) e39 e46)
        refine ls_cons ?_ ?_
        · intro v19 lo hi w_ k_ hO hd _ _ hk_ _ hR hold
          have e47 : v19 47 = (.bool true) := hd 47 (by kernel_rfl)
          clear hd hold
          refine ⟨_, rfl, gd rfl ?_⟩
          exact Does.is (d_assign (v := (.bool true)) e47)
        exact ls_nil
      · skip
        exact ms_nil
      intro v19 lo_ hi_ w20 o21 hd iv_ hR
      have e0 : v19 0 = u1 := hd 0 (by decide)
      have e1 : v19 1 = u2 := hd 1 (by decide)
      have e3 : v19 3 = (.string (strOf (addP la lb))) := hd 3 (by decide)
      have e4 : v19 4 = u1 := hd 4 (by decide)
      have e5 : v19 5 = u2 := hd 5 (by decide)
      have e7 : v19 7 = (.string (strOf (addP la lb))) := hd 7 (by decide)
      have e8 : v19 8 = (.bool true) := hd 8 (by decide)
      have e9 : v19 9 = (.bool true) := hd 9 (by decide)
      have e10 : v19 10 = u1 := hd 10 (by decide)
      have e11 : v19 11 = u2 := hd 11 (by decide)
      have e13 : v19 13 = (.string (strOf (mulP la lb))) := hd 13 (by decide)
      have e14 : v19 14 = u1 := hd 14 (by decide)
      have e15 : v19 15 = u2 := hd 15 (by decide)
      have e17 : v19 17 = (.string (strOf (mulP la lb))) := hd 17 (by decide)
      have e18 : v19 18 = (.bool true) := hd 18 (by decide)
      have e19 : v19 19 = (.bool true) := hd 19 (by decide)
      have e20 : v19 20 = (.bool true) := hd 20 (by decide)
      have e21 : v19 21 = u5 := hd 21 (by decide)
      have e22 : v19 22 = (.string (strOf (quoP la lb))) := hd 22 (by decide)
      have e23 : v19 23 = u13 := hd 23 (by decide)
      have e24 : v19 24 = (.string (strOf (quoP la lb))) := hd 24 (by decide)
      have e25 : v19 25 = (.bool true) := hd 25 (by decide)
      have e26 : v19 26 = (.bool true) := hd 26 (by decide)
      have e27 : v19 27 = (.bool true) := hd 27 (by decide)
      have e28 : v19 28 = u7 := hd 28 (by decide)
      have e29 : v19 29 = (.string (strOf (remP la lb))) := hd 29 (by decide)
      have e30 : v19 30 = u15 := hd 30 (by decide)
      have e31 : v19 31 = (.string (strOf (remP la lb))) := hd 31 (by decide)
      have e32 : v19 32 = (.bool true) := hd 32 (by decide)
      have e33 : v19 33 = (.bool true) := hd 33 (by decide)
      have e34 : v19 34 = (.bool true) := hd 34 (by decide)
      have e35 : v19 35 = (.bool (isP lb)) := hd 35 (by decide)
      have e36 : v19 36 = (.bool (isP lb)) := hd 36 (by decide)
      have e37 : v19 37 = (.bool true) := hd 37 (by decide)
      have e38 : v19 38 = (.bool true) := hd 38 (by decide)
      have e39 : v19 39 = (.bool true) := hd 39 (by decide)
      have e40 : v19 40 = u1 := hd 40 (by decide)
      have e42 : v19 42 = (.string (strOf (trimL la))) := hd 42 (by decide)
      have e43 : v19 43 = u1 := hd 43 (by decide)
      have e45 : v19 45 = (.string (strOf (trimL la))) := hd 45 (by decide)
      have e46 : v19 46 = (.bool true) := hd 46 (by decide)
      have e47 : v19 47 = (.bool true) := hd 47 (by decide)
      have e48 : v19 48 = (.bool true) := hd 48 (by decide)
      have f_v19_2 : Ps (Old W.heap.size) (Seq kB (addP la lb) (v19 2)) w20 := hd 2 (by decide)
      have f_v19_6 : Ps (Old W.heap.size) (Seq kB (addP la lb) (v19 6)) w20 := hd 6 (by decide)
      have f_v19_12 : Ps (Old W.heap.size) (Seq kB (mulP la lb) (v19 12)) w20 := hd 12 (by decide)
      have f_v19_16 : Ps (Old W.heap.size) (Seq kB (mulP la lb) (v19 16)) w20 := hd 16 (by decide)
      have f_v19_41 : Ps (Old W.heap.size) (Seq kB (trimL la) (v19 41)) w20 := hd 41 (by decide)
      have f_v19_44 : Ps (Old W.heap.size) (Seq kB (trimL la) (v19 44)) w20 := hd 44 (by decide)
      clear hd iv_ lo_ hi_
      refine fr_eq (l' := [u1, u2, undef, undef, (.bool true), u5, u7, (.bool (isP lb)), u13, u15, (.bool (isP lb)), (.bool true), (.bool false), u1, (eN la.length), (.bool false), (.bool false), u2, (eN lb.length), (.bool (decide (40 < lb.length))), (.bool (decide (40 < lb.length))), (.tuple #[u5, u7, (.bool (isP lb))]), u1, u2, (.tuple #[u5, u7, (.bool (isP lb))]), u5, u7, (.bool (isP lb)), (.tuple #[u13, u15, (.bool (isP lb))]), u1, u2, (.tuple #[u13, u15, (.bool (isP lb))]), u13, u15, (.bool (isP lb)), u1, u2, (v19 2), (.string (strOf (addP la lb))), u1, u2, (v19 6), (.string (strOf (addP la lb))), (.bool true), (.bool true), u1, u2, (v19 12), (.string (strOf (mulP la lb))), u1, u2, (v19 16), (.string (strOf (mulP la lb))), (.bool true), (.bool true), (.bool true), u5, (.string (strOf (quoP la lb))), u13, (.string (strOf (quoP la lb))), (.bool true), (.bool true), (.bool true), u7, (.string (strOf (remP la lb))), u15, (.string (strOf (remP la lb))), (.bool true), (.bool true), (.bool true), (.bool (isP lb)), (.bool (isP lb)), (.bool true), (.bool true), (.bool true), u1, (v19 41), (.string (strOf (trimL la))), u1, (v19 44), (.string (strOf (trimL la))), (.bool true), (.bool true)]) (by rw [e0, e1, e3, e4, e5, e7, e8, e9, e10, e11, e13, e14, e15, e17, e18, e19, e20, e21, e22, e23, e24, e25, e26, e27, e28, e29, e30, e31, e32, e33, e34, e35, e36, e37, e38, e39, e40, e42, e43, e45, e46, e47, e48]) ?_
      clear e0 e1 e3 e4 e5 e7 e8 e9 e10 e11 e13 e14 e15 e17 e18 e19 e20 e21 e22 e23 e24 e25 e26 e27 e28 e29 e30 e31 e32 e33 e34 e35 e36 e37 e38 e39 e40 e42 e43 e45 e46 e47 e48
      replace h1 := h1.step o21 no_any
      replace h2 := h2.step o21 no_any
      replace f6 := f6.step o21 no_any
      replace f8 := f8.step o21 no_any
      replace f14 := f14.step o21 no_any
      replace f16 := f16.step o21 no_any
      clear hR
      replace oW := oW.tail o21 tl_no
      refine then_n ?_
      refine wpIn_ret ?_
      refine leave0 (v := (.bool true)) (res1 Try.results8 rfl) ?_
      exact ⟨rfl, oW⟩

set_option maxRecDepth 20000 in
set_option maxHeartbeats 1000000 in
theorem polyDivides_ok (la lb : List UInt8) (u1 u2 : Value) (W : World) (h1 : Ps No (Seq kB la u1) W) (h2 : Ps No (Seq kB lb u2) W) :
    CW Try.prog 9 #[u1, u2] W (Rt (RIs (.bool true) W)) := by
  have oW : Only No W W := Only.refl _ _
  refine enter (al := [u1, u2]) (k := 89) (l := [u1, u2, undef, undef, undef, undef, undef, undef, undef, undef, undef, undef, undef, undef, undef, undef, undef, undef, undef, undef, undef, undef, undef, undef, undef, undef, undef, undef, undef, undef, undef, undef, undef, undef, undef, undef, undef, undef, undef, undef, undef, undef, undef, undef, undef, undef, undef, undef, undef, undef, undef, undef, undef, undef, undef, undef, undef, undef, undef, undef, undef, undef, undef, undef, undef, undef, undef, undef, undef, undef, undef, undef, undef, undef, undef, undef, undef, undef, undef, undef, undef, undef, undef, undef, undef, undef, undef, undef, undef, undef, undef]) Try.func9 rfl Try.ntmps9 rfl rfl ?_
  refine wpIn_seq ?_
  refine plain ?_
  refine wpL.is (v := (.bool false)) rfl (d_assign (v := (.bool false)) rfl) ?_
  refine wpL.flat [u1, u2, undef, undef, (.bool false), undef, undef, undef, undef, undef, undef, undef, undef, undef, undef, undef, undef, undef, undef, undef, undef, undef, undef, undef, undef, undef, undef, undef, undef, undef, undef, undef, undef, undef, undef, undef, undef, undef, undef, undef, undef, undef, undef, undef, undef, undef, undef, undef, undef, undef, undef, undef, undef, undef, undef, undef, undef, undef, undef, undef, undef, undef, undef, undef, undef, undef, undef, undef, undef, undef, undef, undef, undef, undef, undef, undef, undef, undef, undef, undef, undef, undef, undef, undef, undef, undef, undef, undef, undef, undef, undef] (by kernel_rfl) ?_
  refine wpL.done ?_
  refine then_n ?_
  refine wpIn_seq ?_
  refine wpIn_seq ?_
  refine plain ?_
  refine wpL.op rfl (d_call (xl := []) (al := []) Try.func10 (by kernel_rfl) rfl rfl rfl (known_ok _)) ?_
  rintro _ w1 ⟨rfl, o2⟩
  replace h1 := h1.step0 o2
  replace h2 := h2.step0 o2
  replace oW := oW.tail0 o2
  refine wpL.is (v := (.bool false)) rfl (d_not rfl rfl) ?_
  refine wpL.flat [u1, u2, undef, undef, (.bool false), undef, undef, undef, undef, undef, undef, undef, (.bool true), (.bool false), undef, undef, undef, undef, undef, undef, undef, undef, undef, undef, undef, undef, undef, undef, undef, undef, undef, undef, undef, undef, undef, undef, undef, undef, undef, undef, undef, undef, undef, undef, undef, undef, undef, undef, undef, undef, undef, undef, undef, undef, undef, undef, undef, undef, undef, undef, undef, undef, undef, undef, undef, undef, undef, undef, undef, undef, undef, undef, undef, undef, undef, undef, undef, undef, undef, undef, undef, undef, undef, undef, undef, undef, undef, undef, undef, undef, undef] (by kernel_rfl) ?_
  refine wpL.done ?_
  refine then_n ?_
  refine cond_f rfl ?_
  refine wpIn_skip ?_
  refine then_n ?_
  refine wpIn_seq ?_
  refine wpIn_seq ?_
  by_cases k1 : 40 < la.length
  · skip
    refine plain ?_
    refine wpL.is (v := u1) rfl (d_move (v := u1) rfl) ?_
    refine wpL.is (v := (eN la.length)) rfl (d_lenS rfl Try.underlying23 rfl h1) ?_
    refine wpL.is (v := (.bool true)) rfl (n_gtr (a := la.length) (b := 40) rfl rfl (decide_eq_true k1)) ?_
    refine wpL.flat [u1, u2, undef, undef, (.bool false), undef, undef, undef, undef, undef, undef, undef, (.bool true), (.bool false), u1, (eN la.length), (.bool true), undef, undef, undef, undef, undef, undef, undef, undef, undef, undef, undef, undef, undef, undef, undef, undef, undef, undef, undef, undef, undef, undef, undef, undef, undef, undef, undef, undef, undef, undef, undef, undef, undef, undef, undef, undef, undef, undef, undef, undef, undef, undef, undef, undef, undef, undef, undef, undef, undef, undef, undef, undef, undef, undef, undef, undef, undef, undef, undef, undef, undef, undef, undef, undef, undef, undef, undef, undef, undef, undef, undef, undef, undef, undef] (by kernel_rfl) ?_
    refine wpL.is (v := (.bool true)) rfl (d_move (v := (.bool true)) rfl) ?_
    refine wpL.off rfl rfl rfl (Nat.le_of_ble_eq_true rfl) rfl ?_
    refine wpL.flat [u1, u2, undef, undef, (.bool false), undef, undef, undef, undef, undef, undef, undef, (.bool true), (.bool false), u1, (eN la.length), (.bool true), (.bool true), undef, undef, undef, undef, undef, undef, undef, undef, undef, undef, undef, undef, undef, undef, undef, undef, undef, undef, undef, undef, undef, undef, undef, undef, undef, undef, undef, undef, undef, undef, undef, undef, undef, undef, undef, undef, undef, undef, undef, undef, undef, undef, undef, undef, undef, undef, undef, undef, undef, undef, undef, undef, undef, undef, undef, undef, undef, undef, undef, undef, undef, undef, undef, undef, undef, undef, undef, undef, undef, undef, undef, undef, undef] (by kernel_rfl) ?_
    refine wpL.off rfl rfl rfl (Nat.le_of_ble_eq_true rfl) rfl ?_
    refine wpL.off rfl rfl rfl (Nat.le_of_ble_eq_true rfl) rfl ?_
    refine wpL.is (v := (.bool true)) rfl (d_pick (b := true) (v := (.bool true)) rfl rfl) ?_
    refine wpL.flat [u1, u2, undef, undef, (.bool false), undef, undef, undef, undef, undef, undef, undef, (.bool true), (.bool false), u1, (eN la.length), (.bool true), (.bool true), undef, undef, undef, (.bool true), undef, undef, undef, undef, undef, undef, undef, undef, undef, undef, undef, undef, undef, undef, undef, undef, undef, undef, undef, undef, undef, undef, undef, undef, undef, undef, undef, undef, undef, undef, undef, undef, undef, undef, undef, undef, undef, undef, undef, undef, undef, undef, undef, undef, undef, undef, undef, undef, undef, undef, undef, undef, undef, undef, undef, undef, undef, undef, undef, undef, undef, undef, undef, undef, undef, undef, undef, undef, undef] (by kernel_rfl) ?_
    refine wpL.done ?_
    refine then_n ?_
    refine cond_t rfl ?_
    refine wpIn_seq ?_
    refine plain ?_
    refine wpL.is (v := (.bool true)) rfl (d_assign (v := (.bool true)) rfl) ?_
    refine wpL.flat [u1, u2, undef, undef, (.bool true), undef, undef, undef, undef, undef, undef, undef, (.bool true), (.bool false), u1, (eN la.length), (.bool true), (.bool true), undef, undef, undef, (.bool true), undef, undef, undef, undef, undef, undef, undef, undef, undef, undef, undef, undef, undef, undef, undef, undef, undef, undef, undef, undef, undef, undef, undef, undef, undef, undef, undef, undef, undef, undef, undef, undef, undef, undef, undef, undef, undef, undef, undef, undef, undef, undef, undef, undef, undef, undef, undef, undef, undef, undef, undef, undef, undef, undef, undef, undef, undef, undef, undef, undef, undef, undef, undef, undef, undef, undef, undef, undef, undef] (by kernel_rfl) ?_
    refine wpL.done ?_
    refine then_n ?_
    refine wpIn_ret ?_
    refine then_r ?_
    refine leave0 (v := (.bool true)) (res1 Try.results9 rfl) ?_
    exact ⟨rfl, oW⟩
  · skip
    refine plain ?_
    refine wpL.is (v := u1) rfl (d_move (v := u1) rfl) ?_
    refine wpL.is (v := (eN la.length)) rfl (d_lenS rfl Try.underlying23 rfl h1) ?_
    refine wpL.is (v := (.bool false)) rfl (n_gtr (a := la.length) (b := 40) rfl rfl (decide_eq_false k1)) ?_
    refine wpL.flat [u1, u2, undef, undef, (.bool false), undef, undef, undef, undef, undef, undef, undef, (.bool true), (.bool false), u1, (eN la.length), (.bool false), undef, undef, undef, undef, undef, undef, undef, undef, undef, undef, undef, undef, undef, undef, undef, undef, undef, undef, undef, undef, undef, undef, undef, undef, undef, undef, undef, undef, undef, undef, undef, undef, undef, undef, undef, undef, undef, undef, undef, undef, undef, undef, undef, undef, undef, undef, undef, undef, undef, undef, undef, undef, undef, undef, undef, undef, undef, undef, undef, undef, undef, undef, undef, undef, undef, undef, undef, undef, undef, undef, undef, undef, undef, undef] (by kernel_rfl) ?_
    refine wpL.is (v := (.bool false)) rfl (d_move (v := (.bool false)) rfl) ?_
    refine wpL.onis (v := u2) rfl rfl rfl (Nat.le_of_ble_eq_true rfl) rfl (d_move (v := u2) rfl) ?_
    refine wpL.onis (v := (eN lb.length)) rfl rfl rfl (Nat.le_of_ble_eq_true rfl) rfl (d_lenS rfl Try.underlying23 rfl h2) ?_
    refine wpL.flat [u1, u2, undef, undef, (.bool false), undef, undef, undef, undef, undef, undef, undef, (.bool true), (.bool false), u1, (eN la.length), (.bool false), (.bool false), u2, (eN lb.length), undef, undef, undef, undef, undef, undef, undef, undef, undef, undef, undef, undef, undef, undef, undef, undef, undef, undef, undef, undef, undef, undef, undef, undef, undef, undef, undef, undef, undef, undef, undef, undef, undef, undef, undef, undef, undef, undef, undef, undef, undef, undef, undef, undef, undef, undef, undef, undef, undef, undef, undef, undef, undef, undef, undef, undef, undef, undef, undef, undef, undef, undef, undef, undef, undef, undef, undef, undef, undef, undef, undef] (by kernel_rfl) ?_
    refine wpL.onis (v := (.bool (decide (40 < lb.length)))) rfl rfl rfl (Nat.le_of_ble_eq_true rfl) rfl (n_gtr (a := lb.length) (b := 40) rfl rfl rfl) ?_
    refine wpL.is (v := (.bool (decide (40 < lb.length)))) rfl (d_pick (b := false) (v := (.bool (decide (40 < lb.length)))) rfl rfl) ?_
    refine wpL.flat [u1, u2, undef, undef, (.bool false), undef, undef, undef, undef, undef, undef, undef, (.bool true), (.bool false), u1, (eN la.length), (.bool false), (.bool false), u2, (eN lb.length), (.bool (decide (40 < lb.length))), (.bool (decide (40 < lb.length))), undef, undef, undef, undef, undef, undef, undef, undef, undef, undef, undef, undef, undef, undef, undef, undef, undef, undef, undef, undef, undef, undef, undef, undef, undef, undef, undef, undef, undef, undef, undef, undef, undef, undef, undef, undef, undef, undef, undef, undef, undef, undef, undef, undef, undef, undef, undef, undef, undef, undef, undef, undef, undef, undef, undef, undef, undef, undef, undef, undef, undef, undef, undef, undef, undef, undef, undef, undef, undef] (by kernel_rfl) ?_
    refine wpL.done ?_
    refine then_n ?_
    refine cond_if rfl (fun k2 => ?_) (fun k2 => ?_)
    · skip
      refine wpIn_seq ?_
      refine plain ?_
      refine wpL.is (v := (.bool true)) rfl (d_assign (v := (.bool true)) rfl) ?_
      refine wpL.flat [u1, u2, undef, undef, (.bool true), undef, undef, undef, undef, undef, undef, undef, (.bool true), (.bool false), u1, (eN la.length), (.bool false), (.bool false), u2, (eN lb.length), (.bool (decide (40 < lb.length))), (.bool (decide (40 < lb.length))), undef, undef, undef, undef, undef, undef, undef, undef, undef, undef, undef, undef, undef, undef, undef, undef, undef, undef, undef, undef, undef, undef, undef, undef, undef, undef, undef, undef, undef, undef, undef, undef, undef, undef, undef, undef, undef, undef, undef, undef, undef, undef, undef, undef, undef, undef, undef, undef, undef, undef, undef, undef, undef, undef, undef, undef, undef, undef, undef, undef, undef, undef, undef, undef, undef, undef, undef, undef, undef] (by kernel_rfl) ?_
      refine wpL.done ?_
      refine then_n ?_
      refine wpIn_ret ?_
      refine then_r ?_
      refine leave0 (v := (.bool true)) (res1 Try.results9 rfl) ?_
      exact ⟨rfl, oW⟩
    · skip
      refine wpIn_skip ?_
      refine then_n ?_
      refine wpIn_seq ?_
      refine plain ?_
      refine wpL.is (v := u2) rfl (d_move (v := u2) rfl) ?_
      refine wpL.op rfl (d_call (xl := [.tmp 22]) (al := [u2]) Try.func18 (by kernel_rfl) rfl rfl rfl (trim_ok lb u2 _ (Ps.no h2) (by first | omega | (simp; done) | (simp; omega)))) ?_
      rintro u5 w3 f6
      replace f6 := f6.ps
      obtain ⟨f6, o4⟩ := f6
      replace f6 := f6.less (Y := (Old W.heap.size)) (old_old oW.size)
      replace h1 := h1.step0 o4
      replace h2 := h2.step0 o4
      replace oW := oW.tail0 o4
      refine wpL.is (v := u5) rfl (d_assign (v := u5) rfl) ?_
      refine wpL.flat [u1, u2, undef, undef, (.bool false), u5, undef, undef, undef, undef, undef, undef, (.bool true), (.bool false), u1, (eN la.length), (.bool false), (.bool false), u2, (eN lb.length), (.bool (decide (40 < lb.length))), (.bool (decide (40 < lb.length))), u2, u5, undef, undef, undef, undef, undef, undef, undef, undef, undef, undef, undef, undef, undef, undef, undef, undef, undef, undef, undef, undef, undef, undef, undef, undef, undef, undef, undef, undef, undef, undef, undef, undef, undef, undef, undef, undef, undef, undef, undef, undef, undef, undef, undef, undef, undef, undef, undef, undef, undef, undef, undef, undef, undef, undef, undef, undef, undef, undef, undef, undef, undef, undef, undef, undef, undef, undef, undef] (by kernel_rfl) ?_
      refine wpL.done ?_
      refine then_n ?_
      refine wpIn_seq ?_
      refine plain ?_
      refine wpL.is (v := u1) rfl (d_move (v := u1) rfl) ?_
      refine wpL.is (v := u2) rfl (d_move (v := u2) rfl) ?_
      refine wpL.op rfl (d_call (xl := [.tmp 25, .tmp 26]) (al := [u1, u2]) Try.func21 (by kernel_rfl) rfl rfl rfl (div_ok la lb u1 u2 _ (Ps.no h1) (Ps.no h2) (by first | omega | (simp; done) | (simp; omega)) (by first | omega | (simp; done) | (simp; omega)))) ?_
      rintro _ w7 ⟨u9, u11, rfl, f10, f12, o8⟩
      replace f10 := f10.less (Y := (Old W.heap.size)) (old_old oW.size)
      replace f12 := f12.less (Y := (Old W.heap.size)) (old_old oW.size)
      replace h1 := h1.step0 o8
      replace h2 := h2.step0 o8
      replace f6 := f6.step0 o8
      replace oW := oW.tail0 o8
      refine wpL.flat [u1, u2, undef, undef, (.bool false), u5, undef, undef, undef, undef, undef, undef, (.bool true), (.bool false), u1, (eN la.length), (.bool false), (.bool false), u2, (eN lb.length), (.bool (decide (40 < lb.length))), (.bool (decide (40 < lb.length))), u2, u5, undef, u1, u2, (.tuple #[u9, u11, (.bool (isP lb))]), undef, undef, undef, undef, undef, undef, undef, undef, undef, undef, undef, undef, undef, undef, undef, undef, undef, undef, undef, undef, undef, undef, undef, undef, undef, undef, undef, undef, undef, undef, undef, undef, undef, undef, undef, undef, undef, undef, undef, undef, undef, undef, undef, undef, undef, undef, undef, undef, undef, undef, undef, undef, undef, undef, undef, undef, undef, undef, undef, undef, undef, undef, undef] (by kernel_rfl) ?_
      refine wpL.is (v := (.tuple #[u9, u11, (.bool (isP lb))])) rfl (d_move (v := (.tuple #[u9, u11, (.bool (isP lb))])) rfl) ?_
      refine wpL.is (v := u9) rfl (d_extract (v := u9) rfl rfl) ?_
      refine wpL.is (v := u11) rfl (d_extract (v := u11) rfl rfl) ?_
      refine wpL.flat [u1, u2, undef, undef, (.bool false), u5, undef, undef, undef, undef, undef, undef, (.bool true), (.bool false), u1, (eN la.length), (.bool false), (.bool false), u2, (eN lb.length), (.bool (decide (40 < lb.length))), (.bool (decide (40 < lb.length))), u2, u5, (.tuple #[u9, u11, (.bool (isP lb))]), u1, u2, (.tuple #[u9, u11, (.bool (isP lb))]), u9, u11, undef, undef, undef, undef, undef, undef, undef, undef, undef, undef, undef, undef, undef, undef, undef, undef, undef, undef, undef, undef, undef, undef, undef, undef, undef, undef, undef, undef, undef, undef, undef, undef, undef, undef, undef, undef, undef, undef, undef, undef, undef, undef, undef, undef, undef, undef, undef, undef, undef, undef, undef, undef, undef, undef, undef, undef, undef, undef, undef, undef, undef] (by kernel_rfl) ?_
      refine wpL.is (v := (.bool (isP lb))) rfl (d_extract (v := (.bool (isP lb))) rfl rfl) ?_
      refine wpL.is (v := u9) rfl (d_assign (v := u9) rfl) ?_
      refine wpL.is (v := u11) rfl (d_assign (v := u11) rfl) ?_
      refine wpL.flat [u1, u2, undef, undef, (.bool false), u5, u9, u11, undef, undef, undef, undef, (.bool true), (.bool false), u1, (eN la.length), (.bool false), (.bool false), u2, (eN lb.length), (.bool (decide (40 < lb.length))), (.bool (decide (40 < lb.length))), u2, u5, (.tuple #[u9, u11, (.bool (isP lb))]), u1, u2, (.tuple #[u9, u11, (.bool (isP lb))]), u9, u11, (.bool (isP lb)), undef, undef, undef, undef, undef, undef, undef, undef, undef, undef, undef, undef, undef, undef, undef, undef, undef, undef, undef, undef, undef, undef, undef, undef, undef, undef, undef, undef, undef, undef, undef, undef, undef, undef, undef, undef, undef, undef, undef, undef, undef, undef, undef, undef, undef, undef, undef, undef, undef, undef, undef, undef, undef, undef, undef, undef, undef, undef, undef, undef] (by kernel_rfl) ?_
      refine wpL.is (v := (.bool (isP lb))) rfl (d_assign (v := (.bool (isP lb))) rfl) ?_
      refine wpL.flat [u1, u2, undef, undef, (.bool false), u5, u9, u11, (.bool (isP lb)), undef, undef, undef, (.bool true), (.bool false), u1, (eN la.length), (.bool false), (.bool false), u2, (eN lb.length), (.bool (decide (40 < lb.length))), (.bool (decide (40 < lb.length))), u2, u5, (.tuple #[u9, u11, (.bool (isP lb))]), u1, u2, (.tuple #[u9, u11, (.bool (isP lb))]), u9, u11, (.bool (isP lb)), undef, undef, undef, undef, undef, undef, undef, undef, undef, undef, undef, undef, undef, undef, undef, undef, undef, undef, undef, undef, undef, undef, undef, undef, undef, undef, undef, undef, undef, undef, undef, undef, undef, undef, undef, undef, undef, undef, undef, undef, undef, undef, undef, undef, undef, undef, undef, undef, undef, undef, undef, undef, undef, undef, undef, undef, undef, undef, undef, undef] (by kernel_rfl) ?_
      refine wpL.done ?_
      refine then_n ?_
      refine wpIn_seq ?_
      refine wpIn_seq ?_
      refine plain ?_
      refine wpL.is (v := u5) rfl (d_move (v := u5) rfl) ?_
      refine wpL.is (v := (eN ((trimL lb).length))) rfl (d_lenS rfl Try.underlying23 rfl f6) ?_
      refine wpL.is (v := (.bool (decide (((trimL lb).length) = 0)))) rfl (n_eql (a := ((trimL lb).length)) (b := 0) rfl rfl rfl) ?_
      refine wpL.flat [u1, u2, undef, undef, (.bool false), u5, u9, u11, (.bool (isP lb)), undef, undef, undef, (.bool true), (.bool false), u1, (eN la.length), (.bool false), (.bool false), u2, (eN lb.length), (.bool (decide (40 < lb.length))), (.bool (decide (40 < lb.length))), u2, u5, (.tuple #[u9, u11, (.bool (isP lb))]), u1, u2, (.tuple #[u9, u11, (.bool (isP lb))]), u9, u11, (.bool (isP lb)), u5, (eN ((trimL lb).length)), (.bool (decide (((trimL lb).length) = 0))), undef, undef, undef, undef, undef, undef, undef, undef, undef, undef, undef, undef, undef, undef, undef, undef, undef, undef, undef, undef, undef, undef, undef, undef, undef, undef, undef, undef, undef, undef, undef, undef, undef, undef, undef, undef, undef, undef, undef, undef, undef, undef, undef, undef, undef, undef, undef, undef, undef, undef, undef, undef, undef, undef, undef, undef, undef] (by kernel_rfl) ?_
      refine wpL.done ?_
      refine then_n ?_
      refine cond_if rfl (fun k3 => ?_) (fun k3 => ?_)
      · skip
        have e0_ := List.eq_nil_of_length_eq_zero k3
        refine wp_eq (l' := [u1, u2, undef, undef, (.bool false), u5, u9, u11, (.bool false), undef, undef, undef, (.bool true), (.bool false), u1, (eN la.length), (.bool false), (.bool false), u2, (eN lb.length), (.bool (decide (40 < lb.length))), (.bool (decide (40 < lb.length))), u2, u5, (.tuple #[u9, u11, (.bool (isP lb))]), u1, u2, (.tuple #[u9, u11, (.bool (isP lb))]), u9, u11, (.bool (isP lb)), u5, (eN ((trimL lb).length)), (.bool (decide (((trimL lb).length) = 0))), undef, undef, undef, undef, undef, undef, undef, undef, undef, undef, undef, undef, undef, undef, undef, undef, undef, undef, undef, undef, undef, undef, undef, undef, undef, undef, undef, undef, undef, undef, undef, undef, undef, undef, undef, undef, undef, undef, undef, undef, undef, undef, undef, undef, undef, undef, undef, undef, undef, undef, undef, undef, undef, undef, undef, undef, undef]) (congrArg (fun x_ => ([u1, u2, undef, undef, (.bool false), u5, u9, u11, x_, undef, undef, undef, (.bool true), (.bool false), u1, (eN la.length), (.bool false), (.bool false), u2, (eN lb.length), (.bool (decide (40 < lb.length))), (.bool (decide (40 < lb.length))), u2, u5, (.tuple #[u9, u11, (.bool (isP lb))]), u1, u2, (.tuple #[u9, u11, (.bool (isP lb))]), u9, u11, (.bool (isP lb)), u5, (eN ((trimL lb).length)), (.bool (decide (((trimL lb).length) = 0))), undef, undef, undef, undef, undef, undef, undef, undef, undef, undef, undef, undef, undef, undef, undef, undef, undef, undef, undef, undef, undef, undef, undef, undef, undef, undef, undef, undef, undef, undef, undef, undef, undef, undef, undef, undef, undef, undef, undef, undef, undef, undef, undef, undef, undef, undef, undef, undef, undef, undef, undef, undef, undef, undef, undef, undef, undef] : List Value)) (by rw [isP_no e0_])) ?_
        refine wpIn_seq ?_
        refine plain ?_
        refine wpL.is (v := (.bool false)) rfl (d_move (v := (.bool false)) rfl) ?_
        refine wpL.is (v := (.bool true)) rfl (d_not rfl rfl) ?_
        refine wpL.is (v := (.bool true)) rfl (d_move (v := (.bool true)) rfl) ?_
        refine wpL.flat [u1, u2, undef, undef, (.bool false), u5, u9, u11, (.bool false), undef, undef, undef, (.bool true), (.bool false), u1, (eN la.length), (.bool false), (.bool false), u2, (eN lb.length), (.bool (decide (40 < lb.length))), (.bool (decide (40 < lb.length))), u2, u5, (.tuple #[u9, u11, (.bool (isP lb))]), u1, u2, (.tuple #[u9, u11, (.bool (isP lb))]), u9, u11, (.bool (isP lb)), u5, (eN ((trimL lb).length)), (.bool (decide (((trimL lb).length) = 0))), (.bool false), (.bool true), (.bool true), undef, undef, undef, undef, undef, undef, undef, undef, undef, undef, undef, undef, undef, undef, undef, undef, undef, undef, undef, undef, undef, undef, undef, undef, undef, undef, undef, undef, undef, undef, undef, undef, undef, undef, undef, undef, undef, undef, undef, undef, undef, undef, undef, undef, undef, undef, undef, undef, undef, undef, undef, undef, undef, undef] (by kernel_rfl) ?_
        refine wpL.onis (v := u9) rfl rfl rfl (Nat.le_of_ble_eq_true rfl) rfl (d_move (v := u9) rfl) ?_
        refine wpL.onis (v := (eN ((quoP la lb).length))) rfl rfl rfl (Nat.le_of_ble_eq_true rfl) rfl (d_lenS rfl Try.underlying23 rfl f10) ?_
        refine wpL.onis (v := (.bool true)) rfl rfl rfl (Nat.le_of_ble_eq_true rfl) rfl (n_eql (a := ((quoP la lb).length)) (b := 0) rfl rfl (decide_eq_true (by rw [(div_no e0_).1]; rfl))) ?_
        refine wpL.flat [u1, u2, undef, undef, (.bool false), u5, u9, u11, (.bool false), undef, undef, undef, (.bool true), (.bool false), u1, (eN la.length), (.bool false), (.bool false), u2, (eN lb.length), (.bool (decide (40 < lb.length))), (.bool (decide (40 < lb.length))), u2, u5, (.tuple #[u9, u11, (.bool (isP lb))]), u1, u2, (.tuple #[u9, u11, (.bool (isP lb))]), u9, u11, (.bool (isP lb)), u5, (eN ((trimL lb).length)), (.bool (decide (((trimL lb).length) = 0))), (.bool false), (.bool true), (.bool true), u9, (eN ((quoP la lb).length)), (.bool true), undef, undef, undef, undef, undef, undef, undef, undef, undef, undef, undef, undef, undef, undef, undef, undef, undef, undef, undef, undef, undef, undef, undef, undef, undef, undef, undef, undef, undef, undef, undef, undef, undef, undef, undef, undef, undef, undef, undef, undef, undef, undef, undef, undef, undef, undef, undef, undef, undef, undef, undef] (by kernel_rfl) ?_
        refine wpL.is (v := (.bool true)) rfl (d_pick (b := true) (v := (.bool true)) rfl rfl) ?_
        refine wpL.is (v := (.bool true)) rfl (d_move (v := (.bool true)) rfl) ?_
        refine wpL.onis (v := u11) rfl rfl rfl (Nat.le_of_ble_eq_true rfl) rfl (d_move (v := u11) rfl) ?_
        refine wpL.flat [u1, u2, undef, undef, (.bool false), u5, u9, u11, (.bool false), undef, undef, undef, (.bool true), (.bool false), u1, (eN la.length), (.bool false), (.bool false), u2, (eN lb.length), (.bool (decide (40 < lb.length))), (.bool (decide (40 < lb.length))), u2, u5, (.tuple #[u9, u11, (.bool (isP lb))]), u1, u2, (.tuple #[u9, u11, (.bool (isP lb))]), u9, u11, (.bool (isP lb)), u5, (eN ((trimL lb).length)), (.bool (decide (((trimL lb).length) = 0))), (.bool false), (.bool true), (.bool true), u9, (eN ((quoP la lb).length)), (.bool true), (.bool true), (.bool true), u11, undef, undef, undef, undef, undef, undef, undef, undef, undef, undef, undef, undef, undef, undef, undef, undef, undef, undef, undef, undef, undef, undef, undef, undef, undef, undef, undef, undef, undef, undef, undef, undef, undef, undef, undef, undef, undef, undef, undef, undef, undef, undef, undef, undef, undef, undef, undef, undef] (by kernel_rfl) ?_
        refine wpL.onis (v := (eN ((remP la lb).length))) rfl rfl rfl (Nat.le_of_ble_eq_true rfl) rfl (d_lenS rfl Try.underlying23 rfl f12) ?_
        refine wpL.onis (v := (.bool true)) rfl rfl rfl (Nat.le_of_ble_eq_true rfl) rfl (n_eql (a := ((remP la lb).length)) (b := 0) rfl rfl (decide_eq_true (by rw [(div_no e0_).2]; rfl))) ?_
        refine wpL.is (v := (.bool true)) rfl (d_pick (b := true) (v := (.bool true)) rfl rfl) ?_
        refine wpL.flat [u1, u2, undef, undef, (.bool false), u5, u9, u11, (.bool false), undef, undef, undef, (.bool true), (.bool false), u1, (eN la.length), (.bool false), (.bool false), u2, (eN lb.length), (.bool (decide (40 < lb.length))), (.bool (decide (40 < lb.length))), u2, u5, (.tuple #[u9, u11, (.bool (isP lb))]), u1, u2, (.tuple #[u9, u11, (.bool (isP lb))]), u9, u11, (.bool (isP lb)), u5, (eN ((trimL lb).length)), (.bool (decide (((trimL lb).length) = 0))), (.bool false), (.bool true), (.bool true), u9, (eN ((quoP la lb).length)), (.bool true), (.bool true), (.bool true), u11, (eN ((remP la lb).length)), (.bool true), (.bool true), undef, undef, undef, undef, undef, undef, undef, undef, undef, undef, undef, undef, undef, undef, undef, undef, undef, undef, undef, undef, undef, undef, undef, undef, undef, undef, undef, undef, undef, undef, undef, undef, undef, undef, undef, undef, undef, undef, undef, undef, undef, undef, undef, undef, undef] (by kernel_rfl) ?_
        refine wpL.is (v := (.bool true)) rfl (d_assign (v := (.bool true)) rfl) ?_
        refine wpL.flat [u1, u2, undef, undef, (.bool true), u5, u9, u11, (.bool false), undef, undef, undef, (.bool true), (.bool false), u1, (eN la.length), (.bool false), (.bool false), u2, (eN lb.length), (.bool (decide (40 < lb.length))), (.bool (decide (40 < lb.length))), u2, u5, (.tuple #[u9, u11, (.bool (isP lb))]), u1, u2, (.tuple #[u9, u11, (.bool (isP lb))]), u9, u11, (.bool (isP lb)), u5, (eN ((trimL lb).length)), (.bool (decide (((trimL lb).length) = 0))), (.bool false), (.bool true), (.bool true), u9, (eN ((quoP la lb).length)), (.bool true), (.bool true), (.bool true), u11, (eN ((remP la lb).length)), (.bool true), (.bool true), undef, undef, undef, undef, undef, undef, undef, undef, undef, undef, undef, undef, undef, undef, undef, undef, undef, undef, undef, undef, undef, undef, undef, undef, undef, undef, undef, undef, undef, undef, undef, undef, undef, undef, undef, undef, undef, undef, undef, undef, undef, undef, undef, undef, undef] (by kernel_rfl) ?_
        refine wpL.done ?_
        refine then_n ?_
        refine wpIn_ret ?_
        refine then_r ?_
        refine leave0 (v := (.bool true)) (res1 Try.results9 rfl) ?_
        exact ⟨rfl, oW⟩
      · skip
        have e0_ : ¬ trimL lb = [] := fun e => k3 (by rw [e]; rfl)
        refine wp_eq (l' := [u1, u2, undef, undef, (.bool false), u5, u9, u11, (.bool true), undef, undef, undef, (.bool true), (.bool false), u1, (eN la.length), (.bool false), (.bool false), u2, (eN lb.length), (.bool (decide (40 < lb.length))), (.bool (decide (40 < lb.length))), u2, u5, (.tuple #[u9, u11, (.bool (isP lb))]), u1, u2, (.tuple #[u9, u11, (.bool (isP lb))]), u9, u11, (.bool (isP lb)), u5, (eN ((trimL lb).length)), (.bool (decide (((trimL lb).length) = 0))), undef, undef, undef, undef, undef, undef, undef, undef, undef, undef, undef, undef, undef, undef, undef, undef, undef, undef, undef, undef, undef, undef, undef, undef, undef, undef, undef, undef, undef, undef, undef, undef, undef, undef, undef, undef, undef, undef, undef, undef, undef, undef, undef, undef, undef, undef, undef, undef, undef, undef, undef, undef, undef, undef, undef, undef, undef]) (congrArg (fun x_ => ([u1, u2, undef, undef, (.bool false), u5, u9, u11, x_, undef, undef, undef, (.bool true), (.bool false), u1, (eN la.length), (.bool false), (.bool false), u2, (eN lb.length), (.bool (decide (40 < lb.length))), (.bool (decide (40 < lb.length))), u2, u5, (.tuple #[u9, u11, (.bool (isP lb))]), u1, u2, (.tuple #[u9, u11, (.bool (isP lb))]), u9, u11, (.bool (isP lb)), u5, (eN ((trimL lb).length)), (.bool (decide (((trimL lb).length) = 0))), undef, undef, undef, undef, undef, undef, undef, undef, undef, undef, undef, undef, undef, undef, undef, undef, undef, undef, undef, undef, undef, undef, undef, undef, undef, undef, undef, undef, undef, undef, undef, undef, undef, undef, undef, undef, undef, undef, undef, undef, undef, undef, undef, undef, undef, undef, undef, undef, undef, undef, undef, undef, undef, undef, undef, undef, undef] : List Value)) (by rw [isP_yes e0_])) ?_
        refine wpIn_skip ?_
        refine then_n ?_
        refine wpIn_seq ?_
        refine plain ?_
        refine wpL.is (v := u1) rfl (d_move (v := u1) rfl) ?_
        refine wpL.is (v := u2) rfl (d_move (v := u2) rfl) ?_
        refine wpL.op rfl (d_call (xl := [.tmp 47, .tmp 48]) (al := [u1, u2]) Try.func16 (by kernel_rfl) rfl rfl rfl (mul_ok la lb u1 u2 _ (Ps.no h1) (Ps.no h2) (by first | omega | (simp; done) | (simp; omega)) (by first | omega | (simp; done) | (simp; omega)))) ?_
        rintro u17 w15 f18
        replace f18 := f18.ps
        obtain ⟨f18, o16⟩ := f18
        replace f18 := f18.less (Y := (Old W.heap.size)) (old_old oW.size)
        replace h1 := h1.step0 o16
        replace h2 := h2.step0 o16
        replace f6 := f6.step0 o16
        replace f10 := f10.step0 o16
        replace f12 := f12.step0 o16
        replace oW := oW.tail0 o16
        refine wpL.flat [u1, u2, undef, undef, (.bool false), u5, u9, u11, (.bool true), undef, undef, undef, (.bool true), (.bool false), u1, (eN la.length), (.bool false), (.bool false), u2, (eN lb.length), (.bool (decide (40 < lb.length))), (.bool (decide (40 < lb.length))), u2, u5, (.tuple #[u9, u11, (.bool (isP lb))]), u1, u2, (.tuple #[u9, u11, (.bool (isP lb))]), u9, u11, (.bool (isP lb)), u5, (eN ((trimL lb).length)), (.bool (decide (((trimL lb).length) = 0))), undef, undef, undef, undef, undef, undef, undef, undef, undef, undef, undef, undef, undef, u1, u2, u17, undef, undef, undef, undef, undef, undef, undef, undef, undef, undef, undef, undef, undef, undef, undef, undef, undef, undef, undef, undef, undef, undef, undef, undef, undef, undef, undef, undef, undef, undef, undef, undef, undef, undef, undef, undef, undef, undef, undef, undef, undef] (by kernel_rfl) ?_
        refine wpL.is (v := u2) rfl (d_move (v := u2) rfl) ?_
        refine wpL.op rfl (d_call (xl := [.tmp 49, .tmp 50]) (al := [u17, u2]) Try.func21 (by kernel_rfl) rfl rfl rfl (div_ok (mulP la lb) lb u17 u2 _ (Ps.no f18) (Ps.no h2) (by have := mulP_len la lb; first | omega | (simp; done) | (simp; omega)) (by first | omega | (simp; done) | (simp; omega)))) ?_
        rintro _ w19 ⟨u21, u23, rfl, f22, f24, o20⟩
        replace f22 := f22.less (Y := (Old W.heap.size)) (old_old oW.size)
        replace f24 := f24.less (Y := (Old W.heap.size)) (old_old oW.size)
        replace h1 := h1.step0 o20
        replace h2 := h2.step0 o20
        replace f6 := f6.step0 o20
        replace f10 := f10.step0 o20
        replace f12 := f12.step0 o20
        replace f18 := f18.step0 o20
        replace oW := oW.tail0 o20
        refine wpL.is (v := (.tuple #[u21, u23, (.bool (isP lb))])) rfl (d_move (v := (.tuple #[u21, u23, (.bool (isP lb))])) rfl) ?_
        refine wpL.flat [u1, u2, undef, undef, (.bool false), u5, u9, u11, (.bool true), undef, undef, undef, (.bool true), (.bool false), u1, (eN la.length), (.bool false), (.bool false), u2, (eN lb.length), (.bool (decide (40 < lb.length))), (.bool (decide (40 < lb.length))), u2, u5, (.tuple #[u9, u11, (.bool (isP lb))]), u1, u2, (.tuple #[u9, u11, (.bool (isP lb))]), u9, u11, (.bool (isP lb)), u5, (eN ((trimL lb).length)), (.bool (decide (((trimL lb).length) = 0))), undef, undef, undef, undef, undef, undef, undef, undef, undef, undef, undef, undef, (.tuple #[u21, u23, (.bool (isP lb))]), u1, u2, u17, u2, (.tuple #[u21, u23, (.bool (isP lb))]), undef, undef, undef, undef, undef, undef, undef, undef, undef, undef, undef, undef, undef, undef, undef, undef, undef, undef, undef, undef, undef, undef, undef, undef, undef, undef, undef, undef, undef, undef, undef, undef, undef, undef, undef, undef, undef, undef, undef] (by kernel_rfl) ?_
        refine wpL.is (v := u21) rfl (d_extract (v := u21) rfl rfl) ?_
        refine wpL.is (v := u23) rfl (d_extract (v := u23) rfl rfl) ?_
        refine wpL.is (v := (.bool (isP lb))) rfl (d_extract (v := (.bool (isP lb))) rfl rfl) ?_
        refine wpL.flat [u1, u2, undef, undef, (.bool false), u5, u9, u11, (.bool true), undef, undef, undef, (.bool true), (.bool false), u1, (eN la.length), (.bool false), (.bool false), u2, (eN lb.length), (.bool (decide (40 < lb.length))), (.bool (decide (40 < lb.length))), u2, u5, (.tuple #[u9, u11, (.bool (isP lb))]), u1, u2, (.tuple #[u9, u11, (.bool (isP lb))]), u9, u11, (.bool (isP lb)), u5, (eN ((trimL lb).length)), (.bool (decide (((trimL lb).length) = 0))), undef, undef, undef, undef, undef, undef, undef, undef, undef, undef, undef, undef, (.tuple #[u21, u23, (.bool (isP lb))]), u1, u2, u17, u2, (.tuple #[u21, u23, (.bool (isP lb))]), u21, u23, (.bool (isP lb)), undef, undef, undef, undef, undef, undef, undef, undef, undef, undef, undef, undef, undef, undef, undef, undef, undef, undef, undef, undef, undef, undef, undef, undef, undef, undef, undef, undef, undef, undef, undef, undef, undef, undef, undef, undef] (by kernel_rfl) ?_
        refine wpL.is (v := u21) rfl (d_assign (v := u21) rfl) ?_
        refine wpL.is (v := u23) rfl (d_assign (v := u23) rfl) ?_
        refine wpL.is (v := (.bool (isP lb))) rfl (d_assign (v := (.bool (isP lb))) rfl) ?_
        refine wpL.flat [u1, u2, undef, undef, (.bool false), u5, u9, u11, (.bool true), u21, u23, (.bool (isP lb)), (.bool true), (.bool false), u1, (eN la.length), (.bool false), (.bool false), u2, (eN lb.length), (.bool (decide (40 < lb.length))), (.bool (decide (40 < lb.length))), u2, u5, (.tuple #[u9, u11, (.bool (isP lb))]), u1, u2, (.tuple #[u9, u11, (.bool (isP lb))]), u9, u11, (.bool (isP lb)), u5, (eN ((trimL lb).length)), (.bool (decide (((trimL lb).length) = 0))), undef, undef, undef, undef, undef, undef, undef, undef, undef, undef, undef, undef, (.tuple #[u21, u23, (.bool (isP lb))]), u1, u2, u17, u2, (.tuple #[u21, u23, (.bool (isP lb))]), u21, u23, (.bool (isP lb)), undef, undef, undef, undef, undef, undef, undef, undef, undef, undef, undef, undef, undef, undef, undef, undef, undef, undef, undef, undef, undef, undef, undef, undef, undef, undef, undef, undef, undef, undef, undef, undef, undef, undef, undef, undef] (by kernel_rfl) ?_
        refine wpL.done ?_
        refine fr_eq (l' := [u1, u2, undef, undef, (.bool false), u5, u9, u11, (.bool true), u21, u23, (.bool true), (.bool true), (.bool false), u1, (eN la.length), (.bool false), (.bool false), u2, (eN lb.length), (.bool (decide (40 < lb.length))), (.bool (decide (40 < lb.length))), u2, u5, (.tuple #[u9, u11, (.bool (isP lb))]), u1, u2, (.tuple #[u9, u11, (.bool (isP lb))]), u9, u11, (.bool (isP lb)), u5, (eN ((trimL lb).length)), (.bool (decide (((trimL lb).length) = 0))), undef, undef, undef, undef, undef, undef, undef, undef, undef, undef, undef, undef, (.tuple #[u21, u23, (.bool (isP lb))]), u1, u2, u17, u2, (.tuple #[u21, u23, (.bool (isP lb))]), u21, u23, (.bool (isP lb)), undef, undef, undef, undef, undef, undef, undef, undef, undef, undef, undef, undef, undef, undef, undef, undef, undef, undef, undef, undef, undef, undef, undef, undef, undef, undef, undef, undef, undef, undef, undef, undef, undef, undef, undef, undef]) (congrArg (fun x_ => ([u1, u2, undef, undef, (.bool false), u5, u9, u11, (.bool true), u21, u23, x_, (.bool true), (.bool false), u1, (eN la.length), (.bool false), (.bool false), u2, (eN lb.length), (.bool (decide (40 < lb.length))), (.bool (decide (40 < lb.length))), u2, u5, (.tuple #[u9, u11, (.bool (isP lb))]), u1, u2, (.tuple #[u9, u11, (.bool (isP lb))]), u9, u11, (.bool (isP lb)), u5, (eN ((trimL lb).length)), (.bool (decide (((trimL lb).length) = 0))), undef, undef, undef, undef, undef, undef, undef, undef, undef, undef, undef, undef, (.tuple #[u21, u23, (.bool (isP lb))]), u1, u2, u17, u2, (.tuple #[u21, u23, (.bool (isP lb))]), u21, u23, (.bool (isP lb)), undef, undef, undef, undef, undef, undef, undef, undef, undef, undef, undef, undef, undef, undef, undef, undef, undef, undef, undef, undef, undef, undef, undef, undef, undef, undef, undef, undef, undef, undef, undef, undef, undef, undef, undef, undef] : List Value)) (by rw [isP_yes e0_])) ?_
        refine then_n ?_
        refine wpIn_seq ?_
        refine drawn' (O := No) (n := 37) [0, 1, 3, 7, 15, 31, 63, 31, 159, 511, 1023, 2047, 4095, 4095, 16383, 4095, 65535, 131071, 4095, 393215, 917503, 2097151, 4194303, 8388607, 16777215, 33554431, 67108863, 134217727, 268435455, 536870911, 1073741823, 536870911, 2684354559, 6979321855, 17179869183, 34359738367, 68719476735] [(0, 55), (1, 56), (2, 57), (3, 58), (4, 59), (5, 60), (6, 61), (7, 62), (8, 63), (9, 64), (10, 65), (11, 66), (12, 67), (13, 68), (14, 69), (15, 70), (16, 71), (17, 72), (18, 73), (19, 74), (20, 75), (21, 76), (22, 77), (23, 78), (24, 79), (25, 80), (26, 81), (27, 82), (28, 83), (29, 84), (30, 85), (31, 86), (32, 87), (33, 88), (34, 89), (35, 90), (36, 4)] [0, 1, 2, 3, 4, 5, 6, 7, 8, 9, 10, 11, 12, 13, 14, 15, 16, 17, 18, 19, 20, 21, 22, 23, 24, 25, 26, 27, 28, 29, 30, 31, 32, 33, 34, 35, 36] [] (fun i_ => ([RF.is No (.bool true), RF.is No (.bool true), RF.is No (.bool true), RF.is No (.bool true), RF.is No (.bool true), RF.is No u11, RF.is No (eN ((remP la lb).length)), RF.is No u5, RF.is No (eN ((trimL lb).length)), RF.is No (.bool true), RF.is No (.bool true), RF.is No (.bool true), RF.is No u9, RF.is No u5, RF.ps No (Old W.heap.size) (Seq kB (mulP (quoP la lb) (trimL lb))) no_any, RF.is No u11, RF.ps No (Old W.heap.size) (Seq kB (addP (mulP (quoP la lb) (trimL lb)) (remP la lb))) no_any, RF.is No (.string (strOf (addP (mulP (quoP la lb) (trimL lb)) (remP la lb)))), RF.is No u1, RF.ps No (Old W.heap.size) (Seq kB (trimL la)) no_any, RF.is No (.string (strOf (trimL la))), RF.is No (.bool true), RF.is No (.bool true), RF.is No (.bool true), RF.is No u23, RF.is No (eN ((remP (mulP la lb) lb).length)), RF.is No (.bool true), RF.is No (.bool true), RF.is No (.bool true), RF.is No u21, RF.is No (.string (strOf (quoP (mulP la lb) lb))), RF.is No u1, RF.ps No (Old W.heap.size) (Seq kB (trimL la)) no_any, RF.is No (.string (strOf (trimL la))), RF.is No (.bool true), RF.is No (.bool true), RF.is No (.bool true)] : List (RF No)).getD i_ (RF.any No)) (fun _ w_ => True) (fun v27 => [u1, u2, undef, undef, (v27 36), u5, u9, u11, (.bool true), u21, u23, (.bool true), (.bool true), (.bool false), u1, (eN la.length), (.bool false), (.bool false), u2, (eN lb.length), (.bool (decide (40 < lb.length))), (.bool (decide (40 < lb.length))), u2, u5, (.tuple #[u9, u11, (.bool (isP lb))]), u1, u2, (.tuple #[u9, u11, (.bool (isP lb))]), u9, u11, (.bool (isP lb)), u5, (eN ((trimL lb).length)), (.bool (decide (((trimL lb).length) = 0))), undef, undef, undef, undef, undef, undef, undef, undef, undef, undef, undef, undef, (.tuple #[u21, u23, (.bool (isP lb))]), u1, u2, u17, u2, (.tuple #[u21, u23, (.bool (isP lb))]), u21, u23, (.bool (isP lb)), (v27 0), (v27 1), (v27 2), (v27 3), (v27 4), (v27 5), (v27 6), (v27 7), (v27 8), (v27 9), (v27 10), (v27 11), (v27 12), (v27 13), (v27 14), (v27 15), (v27 16), (v27 17), (v27 18), (v27 19), (v27 20), (v27 21), (v27 22), (v27 23), (v27 24), (v27 25), (v27 26), (v27 27), (v27 28), (v27 29), (v27 30), (v27 31), (v27 32), (v27 33), (v27 34), (v27 35)]) s_mx (by kernel_rfl) rfl (by decide) (by rfl) (fun v_ => by kernel_rfl) (fun _ => fun _ _ _ _ => trivial) trivial ?_ ?_ ?_
        · skip
          refine ls_cons ?_ ?_
          · intro v27 lo hi w_ k_ hO hd _ _ hk_ _ hR hold
            clear hd hold
            refine ⟨_, rfl, gd rfl ?_⟩
            exact Does.is (d_move (v := (.bool true)) rfl)
          refine ls_cons ?_ ?_
          · intro v27 lo hi w_ k_ hO hd _ _ hk_ _ hR hold
            have e0 : v27 0 = (.bool true) := hd 0 (by kernel_rfl)
            clear hd hold
            refine ⟨_, rfl, gd rfl ?_⟩
            exact Does.is (d_move (v := (.bool true)) e0)
          refine ls_cons ?_ ?_
          · intro v27 lo hi w_ k_ hO hd _ _ hk_ _ hR hold
            have e1 : v27 1 = (.bool true) := hd 1 (by kernel_rfl)
            clear hd hold
            refine ⟨_, rfl, gd_on rfl rfl rfl (Nat.le_of_ble_eq_true rfl) e1 ?_⟩
            exact Does.is (d_move (v := (.bool true)) rfl)
          refine ls_cons ?_ ?_
          · intro v27 lo hi w_ k_ hO hd _ _ hk_ _ hR hold
            have e1 : v27 1 = (.bool true) := hd 1 (by kernel_rfl)
            have e2 : v27 2 = (.bool true) := hd 2 (by kernel_rfl)
            clear hd hold
            refine ⟨_, rfl, gd rfl ?_⟩
            exact Does.is (d_pick (b := true) (v := (.bool true)) e1 e2)
          refine ls_cons ?_ ?_
          · intro v27 lo hi w_ k_ hO hd _ _ hk_ _ hR hold
            have e3 : v27 3 = (.bool true) := hd 3 (by kernel_rfl)
            clear hd hold
            refine ⟨_, rfl, gd rfl ?_⟩
            exact Does.is (d_move (v := (.bool true)) e3)
          refine ls_cons ?_ ?_
          · intro v27 lo hi w_ k_ hO hd _ _ hk_ _ hR hold
            have e4 : v27 4 = (.bool true) := hd 4 (by kernel_rfl)
            clear hd hold
            refine ⟨_, rfl, gd_on rfl rfl rfl (Nat.le_of_ble_eq_true rfl) e4 ?_⟩
            exact Does.is (d_move (v := u11) rfl)
          refine ls_cons ?_ ?_
          · intro v27 lo hi w_ k_ hO hd _ _ hk_ _ hR hold
            have e4 : v27 4 = (.bool true) := hd 4 (by kernel_rfl)
            have e5 : v27 5 = u11 := hd 5 (by kernel_rfl)
            clear hd hold
            refine ⟨_, rfl, gd_on rfl rfl rfl (Nat.le_of_ble_eq_true rfl) e4 ?_⟩
            exact Does.is (d_lenS rfl Try.underlying23 e5 (f12.step hO no_any))
          refine ls_cons ?_ ?_
          · intro v27 lo hi w_ k_ hO hd _ _ hk_ _ hR hold
            have e4 : v27 4 = (.bool true) := hd 4 (by kernel_rfl)
            clear hd hold
            refine ⟨_, rfl, gd_on rfl rfl rfl (Nat.le_of_ble_eq_true rfl) e4 ?_⟩
            exact Does.is (d_move (v := u5) rfl)
          refine ls_cons ?_ ?_
          · intro v27 lo hi w_ k_ hO hd _ _ hk_ _ hR hold
            have e4 : v27 4 = (.bool true) := hd 4 (by kernel_rfl)
            have e7 : v27 7 = u5 := hd 7 (by kernel_rfl)
            clear hd hold
            refine ⟨_, rfl, gd_on rfl rfl rfl (Nat.le_of_ble_eq_true rfl) e4 ?_⟩
            exact Does.is (d_lenS rfl Try.underlying23 e7 (f6.step hO no_any))
          refine ls_cons ?_ ?_
          · intro v27 lo hi w_ k_ hO hd _ _ hk_ _ hR hold
            have e4 : v27 4 = (.bool true) := hd 4 (by kernel_rfl)
            have e6 : v27 6 = (eN ((remP la lb).length)) := hd 6 (by kernel_rfl)
            have e8 : v27 8 = (eN ((trimL lb).length)) := hd 8 (by kernel_rfl)
            clear hd hold
            refine ⟨_, rfl, gd_on rfl rfl rfl (Nat.le_of_ble_eq_true rfl) e4 ?_⟩
            exact Does.is (n_lss (a := ((remP la lb).length)) (b := ((trimL lb).length)) e6 e8 (decide_eq_true (rem_lt e0_)))
          refine ls_cons ?_ ?_
          · intro v27 lo hi w_ k_ hO hd _ _ hk_ _ hR hold
            have e4 : v27 4 = (.bool true) := hd 4 (by kernel_rfl)
            have e9 : v27 9 = (.bool true) := hd 9 (by kernel_rfl)
            clear hd hold
            refine ⟨_, rfl, gd rfl ?_⟩
            exact Does.is (d_pick (b := true) (v := (.bool true)) e4 e9)
          refine ls_cons ?_ ?_
          · intro v27 lo hi w_ k_ hO hd _ _ hk_ _ hR hold
            have e10 : v27 10 = (.bool true) := hd 10 (by kernel_rfl)
            clear hd hold
            refine ⟨_, rfl, gd rfl ?_⟩
            exact Does.is (d_move (v := (.bool true)) e10)
          refine ls_cons ?_ ?_
          · intro v27 lo hi w_ k_ hO hd _ _ hk_ _ hR hold
            have e11 : v27 11 = (.bool true) := hd 11 (by kernel_rfl)
            clear hd hold
            refine ⟨_, rfl, gd_on rfl rfl rfl (Nat.le_of_ble_eq_true rfl) e11 ?_⟩
            exact Does.is (d_move (v := u9) rfl)
          refine ls_cons ?_ ?_
          · intro v27 lo hi w_ k_ hO hd _ _ hk_ _ hR hold
            have e11 : v27 11 = (.bool true) := hd 11 (by kernel_rfl)
            clear hd hold
            refine ⟨_, rfl, gd_on rfl rfl rfl (Nat.le_of_ble_eq_true rfl) e11 ?_⟩
            exact Does.is (d_move (v := u5) rfl)
          refine ls_cons ?_ ?_
          · intro v27 lo hi w_ k_ hO hd _ _ hk_ _ hR hold
            have e11 : v27 11 = (.bool true) := hd 11 (by kernel_rfl)
            have e12 : v27 12 = u9 := hd 12 (by kernel_rfl)
            have e13 : v27 13 = u5 := hd 13 (by kernel_rfl)
            clear hd hold
            refine ⟨_, rfl, gd_on rfl rfl rfl (Nat.le_of_ble_eq_true rfl) e11 ?_⟩
            refine Does.mono (R := ROw 5 eB (mulP (quoP la lb) (trimL lb)) w_) ?_ (fun u w' h => ⟨(h.ps).1.less (old_old (Nat.le_trans oW.size hO.size)), (h.ps).2⟩)
            exact d_call (xl := [.tmp 67, .tmp 68]) (al := [u9, u5]) Try.func16 (by kernel_rfl) rfl (show ([(v27 12), (v27 13)] : List Value) = [u9, u5] from by rw [e12, e13]) rfl (mul_ok (quoP la lb) (trimL lb) u9 u5 _ (Ps.no (f10.step hO no_any)) (Ps.no (f6.step hO no_any)) (by have := quoP_len la lb; first | omega | (simp; done) | (simp; omega)) (by have := trimL_len lb; first | omega | (simp; done) | (simp; omega)))
          refine ls_cons ?_ ?_
          · intro v27 lo hi w_ k_ hO hd _ _ hk_ _ hR hold
            have e11 : v27 11 = (.bool true) := hd 11 (by kernel_rfl)
            clear hd hold
            refine ⟨_, rfl, gd_on rfl rfl rfl (Nat.le_of_ble_eq_true rfl) e11 ?_⟩
            exact Does.is (d_move (v := u11) rfl)
          refine ls_cons ?_ ?_
          · intro v27 lo hi w_ k_ hO hd _ _ hk_ _ hR hold
            have e11 : v27 11 = (.bool true) := hd 11 (by kernel_rfl)
            have d14 : Ps (Old W.heap.size) (Seq kB (mulP (quoP la lb) (trimL lb)) (v27 14)) w_ := hd 14 (by kernel_rfl)
            have e15 : v27 15 = u11 := hd 15 (by kernel_rfl)
            clear hd hold
            refine ⟨_, rfl, gd_on rfl rfl rfl (Nat.le_of_ble_eq_true rfl) e11 ?_⟩
            refine Does.mono (R := ROw 5 eB (addP (mulP (quoP la lb) (trimL lb)) (remP la lb)) w_) ?_ (fun u w' h => ⟨(h.ps).1.less (old_old (Nat.le_trans oW.size hO.size)), (h.ps).2⟩)
            exact d_call (xl := [.tmp 69, .tmp 70]) (al := [(v27 14), u11]) Try.func17 (by kernel_rfl) rfl (show ([(v27 14), (v27 15)] : List Value) = [(v27 14), u11] from by rw [e15]) rfl (add_ok (mulP (quoP la lb) (trimL lb)) (remP la lb) (v27 14) u11 _ (Ps.no d14) (Ps.no (f12.step hO no_any)) (by have := mulP_len (quoP la lb) (trimL lb); have := trimL_len lb; have := quoP_len la lb; first | omega | (simp; done) | (simp; omega)) (by have := remP_len la lb; first | omega | (simp; done) | (simp; omega)))
          refine ls_cons ?_ ?_
          · intro v27 lo hi w_ k_ hO hd _ _ hk_ _ hR hold
            have e11 : v27 11 = (.bool true) := hd 11 (by kernel_rfl)
            have d16 : Ps (Old W.heap.size) (Seq kB (addP (mulP (quoP la lb) (trimL lb)) (remP la lb)) (v27 16)) w_ := hd 16 (by kernel_rfl)
            clear hd hold
            refine ⟨_, rfl, gd_on rfl rfl rfl (Nat.le_of_ble_eq_true rfl) e11 ?_⟩
            exact Does.is (d_str Try.underlying23 Try.underlying5 Try.underlying9 rfl d16)
          refine ls_cons ?_ ?_
          · intro v27 lo hi w_ k_ hO hd _ _ hk_ _ hR hold
            have e11 : v27 11 = (.bool true) := hd 11 (by kernel_rfl)
            clear hd hold
            refine ⟨_, rfl, gd_on rfl rfl rfl (Nat.le_of_ble_eq_true rfl) e11 ?_⟩
            exact Does.is (d_move (v := u1) rfl)
          refine ls_cons ?_ ?_
          · intro v27 lo hi w_ k_ hO hd _ _ hk_ _ hR hold
            have e11 : v27 11 = (.bool true) := hd 11 (by kernel_rfl)
            have e18 : v27 18 = u1 := hd 18 (by kernel_rfl)
            clear hd hold
            refine ⟨_, rfl, gd_on rfl rfl rfl (Nat.le_of_ble_eq_true rfl) e11 ?_⟩
            refine Does.mono (R := ROw 5 eB (trimL la) w_) ?_ (fun u w' h => ⟨(h.ps).1.less (old_old (Nat.le_trans oW.size hO.size)), (h.ps).2⟩)
            exact d_call (xl := [.tmp 73]) (al := [u1]) Try.func18 (by kernel_rfl) rfl (show ([(v27 18)] : List Value) = [u1] from by rw [e18]) rfl (trim_ok la u1 _ (Ps.no (h1.step hO no_any)) (by first | omega | (simp; done) | (simp; omega)))
          refine ls_cons ?_ ?_
          · intro v27 lo hi w_ k_ hO hd _ _ hk_ _ hR hold
            have e11 : v27 11 = (.bool true) := hd 11 (by kernel_rfl)
            have d19 : Ps (Old W.heap.size) (Seq kB (trimL la) (v27 19)) w_ := hd 19 (by kernel_rfl)
            clear hd hold
            refine ⟨_, rfl, gd_on rfl rfl rfl (Nat.le_of_ble_eq_true rfl) e11 ?_⟩
            exact Does.is (d_str Try.underlying23 Try.underlying5 Try.underlying9 rfl d19)
          refine ls_cons ?_ ?_
          · intro v27 lo hi w_ k_ hO hd _ _ hk_ _ hR hold
            have e11 : v27 11 = (.bool true) := hd 11 (by kernel_rfl)
            have e17 : v27 17 = (.string (strOf (addP (mulP (quoP la lb) (trimL lb)) (remP la lb)))) := hd 17 (by kernel_rfl)
            have e20 : v27 20 = (.string (strOf (trimL la))) := hd 20 (by kernel_rfl)
            clear hd hold
            refine ⟨_, rfl, gd_on rfl rfl rfl (Nat.le_of_ble_eq_true rfl) e11 ?_⟩
            exact Does.is (d_seql (a := (addP (mulP (quoP la lb) (trimL lb)) (remP la lb))) (c := (trimL la)) e17 e20 (decide_eq_true (quo_eq e0_)))
          refine ls_cons ?_ ?_
          · intro v27 lo hi w_ k_ hO hd _ _ hk_ _ hR hold
            have e11 : v27 11 = (.bool true) := hd 11 (by kernel_rfl)
            have e21 : v27 21 = (.bool true) := hd 21 (by kernel_rfl)
            clear hd hold
            refine ⟨_, rfl, gd rfl ?_⟩
            exact Does.is (d_pick (b := true) (v := (.bool true)) e11 e21)
          refine ls_cons ?_ ?_
          · intro v27 lo hi w_ k_ hO hd _ _ hk_ _ hR hold
            have e22 : v27 22 = (.bool true) := hd 22 (by kernel_rfl)
            clear hd hold
            refine ⟨_, rfl, gd rfl ?_⟩
            exact Does.is (d_move (v := (.bool true)) e22)
          refine ls_cons ?_ ?_
          · intro v27 lo hi w_ k_ hO hd _ _ hk_ _ hR hold
            have e23 : v27 23 = (.bool true) := hd 23 (by kernel_rfl)
            clear hd hold
            refine ⟨_, rfl, gd_on rfl rfl rfl (Nat.le_of_ble_eq_true rfl) e23 ?_⟩
            exact Does.is (d_move (v := u23) rfl)
          refine ls_cons ?_ ?_
          · intro v27 lo hi w_ k_ hO hd _ _ hk_ _ hR hold
            have e23 : v27 23 = (.bool true) := hd 23 (by kernel_rfl)
            have e24 : v27 24 = u23 := hd 24 (by kernel_rfl)
            clear hd hold
            refine ⟨_, rfl, gd_on rfl rfl rfl (Nat.le_of_ble_eq_true rfl) e23 ?_⟩
            exact Does.is (d_lenS rfl Try.underlying23 e24 (f24.step hO no_any))
          refine ls_cons ?_ ?_
          · intro v27 lo hi w_ k_ hO hd _ _ hk_ _ hR hold
            have e23 : v27 23 = (.bool true) := hd 23 (by kernel_rfl)
            have e25 : v27 25 = (eN ((remP (mulP la lb) lb).length)) := hd 25 (by kernel_rfl)
            clear hd hold
            refine ⟨_, rfl, gd_on rfl rfl rfl (Nat.le_of_ble_eq_true rfl) e23 ?_⟩
            exact Does.is (n_eql (a := ((remP (mulP la lb) lb).length)) (b := 0) e25 rfl (decide_eq_true (by rw [rem_mul e0_]; rfl)))
          refine ls_cons ?_ ?_
          · intro v27 lo hi w_ k_ hO hd _ _ hk_ _ hR hold
            have e23 : v27 23 = (.bool true) := hd 23 (by kernel_rfl)
            have e26 : v27 26 = (.bool true) := hd 26 (by kernel_rfl)
            clear hd hold
            refine ⟨_, rfl, gd rfl ?_⟩
            exact Does.is (d_pick (b := true) (v := (.bool true)) e23 e26)
          refine ls_cons ?_ ?_
          · intro v27 lo hi w_ k_ hO hd _ _ hk_ _ hR hold
            have e27 : v27 27 = (.bool true) := hd 27 (by kernel_rfl)
            clear hd hold
            refine ⟨_, rfl, gd rfl ?_⟩
            exact Does.is (d_move (v := (.bool true)) e27)
          refine ls_cons ?_ ?_
          · intro v27 lo hi w_ k_ hO hd _ _ hk_ _ hR hold
            have e28 : v27 28 = (.bool true) := hd 28 (by kernel_rfl)
            clear hd hold
            refine ⟨_, rfl, gd_on rfl rfl rfl (Nat.le_of_ble_eq_true rfl) e28 ?_⟩
            exact Does.is (d_move (v := u21) rfl)
          refine ls_cons ?_ ?_
          · intro v27 lo hi w_ k_ hO hd _ _ hk_ _ hR hold
            have e28 : v27 28 = (.bool true) := hd 28 (by kernel_rfl)
            have e29 : v27 29 = u21 := hd 29 (by kernel_rfl)
            clear hd hold
            refine ⟨_, rfl, gd_on rfl rfl rfl (Nat.le_of_ble_eq_true rfl) e28 ?_⟩
            exact Does.is (d_str Try.underlying23 Try.underlying5 Try.underlying9 e29 (f22.step hO no_any))
          refine ls_cons ?_ ?_
          · intro v27 lo hi w_ k_ hO hd _ _ hk_ _ hR hold
            have e28 : v27 28 = (.bool true) := hd 28 (by kernel_rfl)
            clear hd hold
            refine ⟨_, rfl, gd_on rfl rfl rfl (Nat.le_of_ble_eq_true rfl) e28 ?_⟩
            exact Does.is (d_move (v := u1) rfl)
          refine ls_cons ?_ ?_
          · intro v27 lo hi w_ k_ hO hd _ _ hk_ _ hR hold
            have e28 : v27 28 = (.bool true) := hd 28 (by kernel_rfl)
            have e31 : v27 31 = u1 := hd 31 (by kernel_rfl)
            clear hd hold
            refine ⟨_, rfl, gd_on rfl rfl rfl (Nat.le_of_ble_eq_true rfl) e28 ?_⟩
            refine Does.mono (R := ROw 5 eB (trimL la) w_) ?_ (fun u w' h => ⟨(h.ps).1.less (old_old (Nat.le_trans oW.size hO.size)), (h.ps).2⟩)
            exact d_call (xl := [.tmp 86]) (al := [u1]) Try.func18 (by kernel_rfl) rfl (show ([(v27 31)] : List Value) = [u1] from by rw [e31]) rfl (trim_ok la u1 _ (Ps.no (h1.step hO no_any)) (by first | omega | (simp; done) | (simp; omega)))
          refine ls_cons ?_ ?_
          · intro v27 lo hi w_ k_ hO hd _ _ hk_ _ hR hold
            have e28 : v27 28 = (.bool true) := hd 28 (by kernel_rfl)
            have d32 : Ps (Old W.heap.size) (Seq kB (trimL la) (v27 32)) w_ := hd 32 (by kernel_rfl)
            clear hd hold
            refine ⟨_, rfl, gd_on rfl rfl rfl (Nat.le_of_ble_eq_true rfl) e28 ?_⟩
            exact Does.is (d_str Try.underlying23 Try.underlying5 Try.underlying9 rfl d32)
          refine ls_cons ?_ ?_
          · intro v27 lo hi w_ k_ hO hd _ _ hk_ _ hR hold
            have e28 : v27 28 = (.bool true) := hd 28 (by kernel_rfl)
            have e30 : v27 30 = (.string (strOf (quoP (mulP la lb) lb))) := hd 30 (by kernel_rfl)
            have e33 : v27 33 = (.string (strOf (trimL la))) := hd 33 (by kernel_rfl)
            clear hd hold
            refine ⟨_, rfl, gd_on rfl rfl rfl (Nat.le_of_ble_eq_true rfl) e28 ?_⟩
            exact Does.is (d_seql (a := (quoP (mulP la lb) lb)) (c := (trimL la)) e30 e33 (decide_eq_true (quo_mul e0_)))
          refine ls_cons ?_ ?_
          · intro v27 lo hi w_ k_ hO hd _ _ hk_ _ hR hold
            have e28 : v27 28 = (.bool true) := hd 28 (by kernel_rfl)
            have e34 : v27 34 = (.bool true) := hd 34 (by kernel_rfl)
            clear hd hold
            refine ⟨_, rfl, gd rfl ?_⟩
            exact Does.is (d_pick (b := true) (v := (.bool true)) e28 e34)
          refine ls_cons ?_ ?_
          · intro v27 lo hi w_ k_ hO hd _ _ hk_ _ hR hold
            have e35 : v27 35 = (.bool true) := hd 35 (by kernel_rfl)
            clear hd hold
            refine ⟨_, rfl, gd rfl ?_⟩
            exact Does.is (d_assign (v := (.bool true)) e35)
          exact ls_nil
        · skip
          exact ms_nil
        intro v27 lo_ hi_ w28 o29 hd iv_ hR
        have e0 : v27 0 = (.bool true) := hd 0 (by decide)
        have e1 : v27 1 = (.bool true) := hd 1 (by decide)
        have e2 : v27 2 = (.bool true) := hd 2 (by decide)
        have e3 : v27 3 = (.bool true) := hd 3 (by decide)
        have e4 : v27 4 = (.bool true) := hd 4 (by decide)
        have e5 : v27 5 = u11 := hd 5 (by decide)
        have e6 : v27 6 = (eN ((remP la lb).length)) := hd 6 (by decide)
        have e7 : v27 7 = u5 := hd 7 (by decide)
        have e8 : v27 8 = (eN ((trimL lb).length)) := hd 8 (by decide)
        have e9 : v27 9 = (.bool true) := hd 9 (by decide)
        have e10 : v27 10 = (.bool true) := hd 10 (by decide)
        have e11 : v27 11 = (.bool true) := hd 11 (by decide)
        have e12 : v27 12 = u9 := hd 12 (by decide)
        have e13 : v27 13 = u5 := hd 13 (by decide)
        have e15 : v27 15 = u11 := hd 15 (by decide)
        have e17 : v27 17 = (.string (strOf (addP (mulP (quoP la lb) (trimL lb)) (remP la lb)))) := hd 17 (by decide)
        have e18 : v27 18 = u1 := hd 18 (by decide)
        have e20 : v27 20 = (.string (strOf (trimL la))) := hd 20 (by decide)
        have e21 : v27 21 = (.bool true) := hd 21 (by decide)
        have e22 : v27 22 = (.bool true) := hd 22 (by decide)
        have e23 : v27 23 = (.bool true) := hd 23 (by decide)
        have e24 : v27 24 = u23 := hd 24 (by decide)
        have e25 : v27 25 = (eN ((remP (mulP la lb) lb).length)) := hd 25 (by decide)
        have e26 : v27 26 = (.bool true) := hd 26 (by decide)
        have e27 : v27 27 = (.bool true) := hd 27 (by decide)
        have e28 : v27 28 = (.bool true) := hd 28 (by decide)
        have e29 : v27 29 = u21 := hd 29 (by decide)
        have e30 : v27 30 = (.string (strOf (quoP (mulP la lb) lb))) := hd 30 (by decide)
        have e31 : v27 31 = u1 := hd 31 (by decide)
        have e33 : v27 33 = (.string (strOf (trimL la))) := hd 33 (by decide)
        have e34 : v27 34 = (.bool true) := hd 34 (by decide)
        have e35 : v27 35 = (.bool true) := hd 35 (by decide)
        have e36 : v27 36 = (.bool true) := hd 36 (by decide)
        have f_v27_14 : Ps (Old W.heap.size) (Seq kB (mulP (quoP la lb) (trimL lb)) (v27 14)) w28 := hd 14 (by decide)
        have f_v27_16 : Ps (Old W.heap.size) (Seq kB (addP (mulP (quoP la lb) (trimL lb)) (remP la lb)) (v27 16)) w28 := hd 16 (by decide)
        have f_v27_19 : Ps (Old W.heap.size) (Seq kB (trimL la) (v27 19)) w28 := hd 19 (by decide)
        have f_v27_32 : Ps (Old W.heap.size) (Seq kB (trimL la) (v27 32)) w28 := hd 32 (by decide)
        clear hd iv_ lo_ hi_
        refine fr_eq (l' := [u1, u2, undef, undef, (.bool true), u5, u9, u11, (.bool true), u21, u23, (.bool true), (.bool true), (.bool false), u1, (eN la.length), (.bool false), (.bool false), u2, (eN lb.length), (.bool (decide (40 < lb.length))), (.bool (decide (40 < lb.length))), u2, u5, (.tuple #[u9, u11, (.bool (isP lb))]), u1, u2, (.tuple #[u9, u11, (.bool (isP lb))]), u9, u11, (.bool (isP lb)), u5, (eN ((trimL lb).length)), (.bool (decide (((trimL lb).length) = 0))), undef, undef, undef, undef, undef, undef, undef, undef, undef, undef, undef, undef, (.tuple #[u21, u23, (.bool (isP lb))]), u1, u2, u17, u2, (.tuple #[u21, u23, (.bool (isP lb))]), u21, u23, (.bool (isP lb)), (.bool true), (.bool true), (.bool true), (.bool true), (.bool true), u11, (eN ((remP la lb).length)), u5, (eN ((trimL lb).length)), (.bool true), (.bool true), (.bool true), u9, u5, (v27 14), u11, (v27 16), (.string (strOf (addP (mulP (quoP la lb) (trimL lb)) (remP la lb)))), u1, (v27 19), (.string (strOf (trimL la))), (.bool true), (.bool true), (.bool true), u23, (eN ((remP (mulP la lb) lb).length)), (.bool true), (.bool true), (.bool true), u21, (.string (strOf (quoP (mulP la lb) lb))), u1, (v27 32), (.string (strOf (trimL la))), (.bool true), (.bool true)]) (by rw [e0, e1, e2, e3, e4, e5, e6, e7, e8, e9, e10, e11, e12, e13, e15, e17, e18, e20, e21, e22, e23, e24, e25, e26, e27, e28, e29, e30, e31, e33, e34, e35, e36]) ?_
        clear e0 e1 e2 e3 e4 e5 e6 e7 e8 e9 e10 e11 e12 e13 e15 e17 e18 e20 e21 e22 e23 e24 e25 e26 e27 e28 e29 e30 e31 e33 e34 e35 e36
        replace h1 := h1.step o29 no_any
        replace h2 := h2.step o29 no_any
        replace f6 := f6.step o29 no_any
        replace f10 := f10.step o29 no_any
        replace f12 := f12.step o29 no_any
        replace f18 := f18.step o29 no_any
        replace f22 := f22.step o29 no_any
        replace f24 := f24.step o29 no_any
        clear hR
        replace oW := oW.tail o29 tl_no
        refine then_n ?_
        refine wpIn_ret ?_
        refine leave0 (v := (.bool true)) (res1 Try.results9 rfl) ?_
        exact ⟨rfl, oW⟩

end Go.Proofs.YtphlhejccgbmfaaF
