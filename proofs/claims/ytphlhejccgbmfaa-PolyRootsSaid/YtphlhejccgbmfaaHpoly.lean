import Derived.Test.YtphlhejccgbmfaaHpoly1
set_option linter.unusedVariables false
set_option linter.unusedSimpArgs false
namespace Go.Proofs.YtphlhejccgbmfaaF
open Go Go.Shelf Go.Proofs.YtphlhejccgbmfaaS Ram
set_option maxRecDepth 20000 in
set_option maxHeartbeats 1000000 in
theorem ref3Eval_ok (la : List UInt8) (u1 : Value) (x : UInt8) (W : World) (h1 : Ps No (Seq kB la u1) W) (g1 : la.length ≤ 8388608) :
    CW Try.prog 19 #[u1, (eB x)] W (Rt (RIs (eB (evP la x)) W)) := by
  have oW : Only No W W := Only.refl _ _
  refine enter (al := [u1, (eB x)]) (k := 21) (l := [u1, (eB x), undef, undef, undef, undef, undef, undef, undef, undef, undef, undef, undef, undef, undef, undef, undef, undef, undef, undef, undef, undef, undef]) Try.func19 rfl Try.ntmps19 rfl rfl ?_
  refine wpIn_seq ?_
  refine plain ?_
  refine wpL.is (v := (eB 0)) rfl (d_assign (v := (eB 0)) rfl) ?_
  refine wpL.flat [u1, (eB x), undef, undef, (eB 0), undef, undef, undef, undef, undef, undef, undef, undef, undef, undef, undef, undef, undef, undef, undef, undef, undef, undef] (by kernel_rfl) ?_
  refine wpL.done ?_
  refine then_n ?_
  refine wpIn_seq ?_
  refine plain ?_
  refine wpL.is (v := (eB 0)) rfl (d_assign (v := (eB 0)) rfl) ?_
  refine wpL.flat [u1, (eB x), undef, undef, (eB 0), (eB 0), undef, undef, undef, undef, undef, undef, undef, undef, undef, undef, undef, undef, undef, undef, undef, undef, undef] (by kernel_rfl) ?_
  refine wpL.done ?_
  refine then_n ?_
  refine wpIn_seq ?_
  refine wpIn_seq ?_
  refine plain ?_
  refine wpL.is (v := u1) rfl (d_move (v := u1) rfl) ?_
  refine wpL.is (v := (eN la.length)) rfl (d_lenS rfl Try.underlying23 rfl h1) ?_
  refine wpL.is (v := (eI (((la.length : Nat) : Int) - 1))) rfl (d_sub (k := .i64) (m := ((la.length : Nat) : Int)) (n := 1) rfl rfl (r := ((la.length : Nat) : Int) - 1) (IntWalk.i64_in _ (by omega))) ?_
  refine wpL.flat [u1, (eB x), undef, undef, (eB 0), (eB 0), undef, u1, (eN la.length), (eI (((la.length : Nat) : Int) - 1)), undef, undef, undef, undef, undef, undef, undef, undef, undef, undef, undef, undef, undef] (by kernel_rfl) ?_
  refine wpL.is (v := (eI (((la.length : Nat) : Int) - 1))) rfl (d_assign (v := (eI (((la.length : Nat) : Int) - 1))) rfl) ?_
  refine wpL.flat [u1, (eB x), undef, undef, (eB 0), (eB 0), (eI (((la.length : Nat) : Int) - 1)), u1, (eN la.length), (eI (((la.length : Nat) : Int) - 1)), undef, undef, undef, undef, undef, undef, undef, undef, undef, undef, undef, undef, undef] (by kernel_rfl) ?_
  refine wpL.done ?_
  refine fr_eq (l' := [u1, (eB x), undef, undef, (eB 0), (eB (evP (la.drop la.length) x)), (eI (((la.length : Nat) : Int) - 1)), u1, (eN la.length), (eI (((la.length : Nat) : Int) - 1)), undef, undef, undef, undef, undef, undef, undef, undef, undef, undef, undef, undef, undef]) (show ([u1, (eB x), undef, undef, (eB 0), (eB 0), (eI (((la.length : Nat) : Int) - 1)), u1, (eN la.length), (eI (((la.length : Nat) : Int) - 1)), undef, undef, undef, undef, undef, undef, undef, undef, undef, undef, undef, undef, undef] : List Value) = [u1, (eB x), undef, undef, (eB 0), (eB (evP (la.drop la.length) x)), (eI (((la.length : Nat) : Int) - 1)), u1, (eN la.length), (eI (((la.length : Nat) : Int) - 1)), undef, undef, undef, undef, undef, undef, undef, undef, undef, undef, undef, undef, undef] from reslot [u1, (eB x), undef, undef, (eB 0), (eB 0), (eI (((la.length : Nat) : Int) - 1)), u1, (eN la.length), (eI (((la.length : Nat) : Int) - 1)), undef, undef, undef, undef, undef, undef, undef, undef, undef, undef, undef, undef, undef] 5 (by rw [List.drop_length]; rfl)) ?_
  refine then_n ?_
  refine wpIn_block ?_
  refine loop2 (fun (n : (Nat)) => fun (z : Nat → Value) => ([u1, (eB x), undef, undef, (eB 0), (eB (evP (la.drop n) x)), (eI (((n : Nat) : Int) - 1)), u1, (eN la.length), (eI (((la.length : Nat) : Int) - 1)), (z 10), (z 11), (z 12), (z 13), (z 14), (z 15), (z 16), (z 17), (z 18), (z 19), (z 20), (z 21), undef] : List Value)) (fun (n : (Nat)) => fun (w_ : World) => (n ≤ la.length) ∧ Only No W w_) (fun (n : (Nat)) => n) la.length rfl ?_ ?_
  · refine ⟨?_, ?_⟩
    · (try dsimp only)
      all_goals (exact Nat.le_refl _)
    · (try dsimp only)
      all_goals (exact Only.refl _ _)
  · rintro n z w2 ⟨hn, o1⟩
    (try dsimp only)
    replace h1 := h1.step o1 no_any
    replace oW := oW.tail o1 tl_no
    refine wpIn_seq ?_
    refine wpIn_seq ?_
    refine plain ?_
    refine wpL.is (v := (eI (((n : Nat) : Int) - 1))) rfl (d_move (v := (eI (((n : Nat) : Int) - 1))) rfl) ?_
    refine wpL.is (v := (Value.bool (decide (0 ≤ ((n : Nat) : Int) - 1)))) rfl (d_geq (k := .i64) (m := ((n : Nat) : Int) - 1) (n := 0) rfl rfl rfl) ?_
    refine wpL.flat [u1, (eB x), undef, undef, (eB 0), (eB (evP (la.drop n) x)), (eI (((n : Nat) : Int) - 1)), u1, (eN la.length), (eI (((la.length : Nat) : Int) - 1)), (eI (((n : Nat) : Int) - 1)), (Value.bool (decide (0 ≤ ((n : Nat) : Int) - 1))), (z 12), (z 13), (z 14), (z 15), (z 16), (z 17), (z 18), (z 19), (z 20), (z 21), undef] (by kernel_rfl) ?_
    refine wpL.done ?_
    refine then_n ?_
    refine cond_if rfl (fun c1 => ?_) (fun c1 => ?_)
    · skip
      obtain ⟨m, rfl⟩ : ∃ m, n = m + 1 := ⟨n - 1, by omega⟩
      refine wp_eq (l' := [u1, (eB x), undef, undef, (eB 0), (eB (evP (la.drop (m + 1)) x)), (eI ((((m + 1) : Nat) : Int) - 1)), u1, (eN la.length), (eI (((la.length : Nat) : Int) - 1)), (eI ((((m + 1) : Nat) : Int) - 1)), (Value.bool (decide (0 ≤ (((m + 1) : Nat) : Int) - 1))), (z 12), (z 13), (z 14), (z 15), (z 16), (z 17), (z 18), (z 19), (z 20), (z 21), undef]) rfl ?_
      refine wp_eq (l' := [u1, (eB x), undef, undef, (eB 0), (eB (evP (la.drop (m + 1)) x)), (eN m), u1, (eN la.length), (eI (((la.length : Nat) : Int) - 1)), (eN m), (Value.bool (decide (0 ≤ (((m + 1) : Nat) : Int) - 1))), (z 12), (z 13), (z 14), (z 15), (z 16), (z 17), (z 18), (z 19), (z 20), (z 21), undef]) (Eq.trans (show ([u1, (eB x), undef, undef, (eB 0), (eB (evP (la.drop (m + 1)) x)), (eI ((((m + 1) : Nat) : Int) - 1)), u1, (eN la.length), (eI (((la.length : Nat) : Int) - 1)), (eI ((((m + 1) : Nat) : Int) - 1)), (Value.bool (decide (0 ≤ (((m + 1) : Nat) : Int) - 1))), (z 12), (z 13), (z 14), (z 15), (z 16), (z 17), (z 18), (z 19), (z 20), (z 21), undef] : List Value) = [u1, (eB x), undef, undef, (eB 0), (eB (evP (la.drop (m + 1)) x)), (eN m), u1, (eN la.length), (eI (((la.length : Nat) : Int) - 1)), (eI ((((m + 1) : Nat) : Int) - 1)), (Value.bool (decide (0 ≤ (((m + 1) : Nat) : Int) - 1))), (z 12), (z 13), (z 14), (z 15), (z 16), (z 17), (z 18), (z 19), (z 20), (z 21), undef] from reslot [u1, (eB x), undef, undef, (eB 0), (eB (evP (la.drop (m + 1)) x)), (eI ((((m + 1) : Nat) : Int) - 1)), u1, (eN la.length), (eI (((la.length : Nat) : Int) - 1)), (eI ((((m + 1) : Nat) : Int) - 1)), (Value.bool (decide (0 ≤ (((m + 1) : Nat) : Int) - 1))), (z 12), (z 13), (z 14), (z 15), (z 16), (z 17), (z 18), (z 19), (z 20), (z 21), undef] 6 (congrArg eI (by omega))) (show ([u1, (eB x), undef, undef, (eB 0), (eB (evP (la.drop (m + 1)) x)), (eN m), u1, (eN la.length), (eI (((la.length : Nat) : Int) - 1)), (eI ((((m + 1) : Nat) : Int) - 1)), (Value.bool (decide (0 ≤ (((m + 1) : Nat) : Int) - 1))), (z 12), (z 13), (z 14), (z 15), (z 16), (z 17), (z 18), (z 19), (z 20), (z 21), undef] : List Value) = [u1, (eB x), undef, undef, (eB 0), (eB (evP (la.drop (m + 1)) x)), (eN m), u1, (eN la.length), (eI (((la.length : Nat) : Int) - 1)), (eN m), (Value.bool (decide (0 ≤ (((m + 1) : Nat) : Int) - 1))), (z 12), (z 13), (z 14), (z 15), (z 16), (z 17), (z 18), (z 19), (z 20), (z 21), undef] from reslot [u1, (eB x), undef, undef, (eB 0), (eB (evP (la.drop (m + 1)) x)), (eN m), u1, (eN la.length), (eI (((la.length : Nat) : Int) - 1)), (eI ((((m + 1) : Nat) : Int) - 1)), (Value.bool (decide (0 ≤ (((m + 1) : Nat) : Int) - 1))), (z 12), (z 13), (z 14), (z 15), (z 16), (z 17), (z 18), (z 19), (z 20), (z 21), undef] 10 (congrArg eI (by omega)))) ?_
      refine wpIn_skip ?_
      refine then_n ?_
      refine wpIn_seq ?_
      refine wpIn_block ?_
      refine drawn' (O := No) (n := 9) [0, 0, 3, 0, 0, 24, 56, 127, 255] [(0, 14), (1, 15), (2, 16), (3, 17), (4, 18), (5, 19), (6, 20), (7, 21), (8, 5)] [0, 1, 2, 3, 4, 5, 6, 7, 8] [] (fun i_ => ([RF.is No (eB (evP (la.drop (m + 1)) x)), RF.is No (eB x), RF.is No (eB (gm (evP (la.drop (m + 1)) x) x)), RF.is No u1, RF.is No (eN m), RF.ps No No (At kB (la.getD m 0)) no_any, RF.is No (eB (la.getD m 0)), RF.is No (eB ((gm (evP (la.drop (m + 1)) x) x) ^^^ (la.getD m 0))), RF.is No (eB ((gm (evP (la.drop (m + 1)) x) x) ^^^ (la.getD m 0)))] : List (RF No)).getD i_ (RF.any No)) (fun _ w_ => True) (fun v3 => [u1, (eB x), undef, undef, (eB 0), (v3 8), (eN m), u1, (eN la.length), (eI (((la.length : Nat) : Int) - 1)), (eN m), (Value.bool (decide (0 ≤ (((m + 1) : Nat) : Int) - 1))), (z 12), (z 13), (v3 0), (v3 1), (v3 2), (v3 3), (v3 4), (v3 5), (v3 6), (v3 7), undef]) s_mx (by kernel_rfl) rfl (by decide) (by rfl) (fun v_ => by kernel_rfl) (fun _ => fun _ _ _ _ => trivial) trivial ?_ ?_ ?_
      · skip
        refine ls_cons ?_ ?_
        · intro v3 lo hi w_ k_ hO hd _ _ hk_ _ hR hold
          have eo8 : v3 8 = (eB (evP (la.drop (m + 1)) x)) := hold (8, 5) (by decide) (by kernel_rfl)
          clear hd hold
          refine ⟨_, rfl, gd rfl ?_⟩
          exact Does.is (d_move (v := (eB (evP (la.drop (m + 1)) x))) eo8)
        refine ls_cons ?_ ?_
        · intro v3 lo hi w_ k_ hO hd _ _ hk_ _ hR hold
          clear hd hold
          refine ⟨_, rfl, gd rfl ?_⟩
          exact Does.is (d_move (v := (eB x)) rfl)
        refine ls_cons ?_ ?_
        · intro v3 lo hi w_ k_ hO hd _ _ hk_ _ hR hold
          have e0 : v3 0 = (eB (evP (la.drop (m + 1)) x)) := hd 0 (by kernel_rfl)
          have e1 : v3 1 = (eB x) := hd 1 (by kernel_rfl)
          clear hd hold
          refine ⟨_, rfl, gd rfl ?_⟩
          exact d_call (xl := [.tmp 14, .tmp 15]) (al := [(eB (evP (la.drop (m + 1)) x)), (eB x)]) Try.func20 (by kernel_rfl) rfl (show ([(v3 0), (v3 1)] : List Value) = [(eB (evP (la.drop (m + 1)) x)), (eB x)] from by rw [e0, e1]) rfl (ref2Mul_ok (evP (la.drop (m + 1)) x) x _)
        refine ls_cons ?_ ?_
        · intro v3 lo hi w_ k_ hO hd _ _ hk_ _ hR hold
          clear hd hold
          refine ⟨_, rfl, gd rfl ?_⟩
          exact Does.is (d_move (v := u1) rfl)
        refine ls_cons ?_ ?_
        · intro v3 lo hi w_ k_ hO hd _ _ hk_ _ hR hold
          clear hd hold
          refine ⟨_, rfl, gd rfl ?_⟩
          exact Does.is (d_move (v := (eN m)) rfl)
        refine ls_cons ?_ ?_
        · intro v3 lo hi w_ k_ hO hd _ _ hk_ _ hR hold
          have e3 : v3 3 = u1 := hd 3 (by kernel_rfl)
          have e4 : v3 4 = (eN m) := hd 4 (by kernel_rfl)
          clear hd hold
          refine ⟨_, rfl, gd rfl ?_⟩
          refine Does.mono (d_indexS (q := kB) (xs := la) (v := (la.getD m 0)) Try.underlying23 s_ti5 e3 (h1.step hO no_any) (show _ = Value.int _ ((m : Nat) : Int) from e4) (by omega) (g_at (by first | omega | (simp; done) | (simp; omega)))) (fun u w' h => ⟨h.2 ▸ h.1, h.2 ▸ Only.refl _ _⟩)
        refine ls_cons ?_ ?_
        · intro v3 lo hi w_ k_ hO hd _ _ hk_ _ hR hold
          have d5 : Ps No (At kB (la.getD m 0) (v3 5)) w_ := hd 5 (by kernel_rfl)
          clear hd hold
          refine ⟨_, rfl, gd rfl ?_⟩
          exact Does.is (d_loadAt (enc := eB) (v := (la.getD m 0)) ⟨_, Try.underlying5, rfl⟩ rfl d5)
        refine ls_cons ?_ ?_
        · intro v3 lo hi w_ k_ hO hd _ _ hk_ _ hR hold
          have e2 : v3 2 = (eB (gm (evP (la.drop (m + 1)) x) x)) := hd 2 (by kernel_rfl)
          have e6 : v3 6 = (eB (la.getD m 0)) := hd 6 (by kernel_rfl)
          clear hd hold
          refine ⟨_, rfl, gd rfl ?_⟩
          exact Does.is (b_xor (c := (gm (evP (la.drop (m + 1)) x) x)) (e := (la.getD m 0)) e2 e6)
        refine ls_cons ?_ ?_
        · intro v3 lo hi w_ k_ hO hd _ _ hk_ _ hR hold
          have e7 : v3 7 = (eB ((gm (evP (la.drop (m + 1)) x) x) ^^^ (la.getD m 0))) := hd 7 (by kernel_rfl)
          clear hd hold
          refine ⟨_, rfl, gd rfl ?_⟩
          exact Does.is (d_assign (v := (eB ((gm (evP (la.drop (m + 1)) x) x) ^^^ (la.getD m 0)))) e7)
        exact ls_nil
      · skip
        exact ms_nil
      intro v3 lo_ hi_ w4 o5 hd iv_ hR
      have e0 : v3 0 = (eB (evP (la.drop (m + 1)) x)) := hd 0 (by decide)
      have e1 : v3 1 = (eB x) := hd 1 (by decide)
      have e2 : v3 2 = (eB (gm (evP (la.drop (m + 1)) x) x)) := hd 2 (by decide)
      have e3 : v3 3 = u1 := hd 3 (by decide)
      have e4 : v3 4 = (eN m) := hd 4 (by decide)
      have e6 : v3 6 = (eB (la.getD m 0)) := hd 6 (by decide)
      have e7 : v3 7 = (eB ((gm (evP (la.drop (m + 1)) x) x) ^^^ (la.getD m 0))) := hd 7 (by decide)
      have e8 : v3 8 = (eB ((gm (evP (la.drop (m + 1)) x) x) ^^^ (la.getD m 0))) := hd 8 (by decide)
      have f_v3_5 : Ps No (At kB (la.getD m 0) (v3 5)) w4 := hd 5 (by decide)
      clear hd iv_ lo_ hi_
      refine fr_eq (l' := [u1, (eB x), undef, undef, (eB 0), (eB ((gm (evP (la.drop (m + 1)) x) x) ^^^ (la.getD m 0))), (eN m), u1, (eN la.length), (eI (((la.length : Nat) : Int) - 1)), (eN m), (Value.bool (decide (0 ≤ (((m + 1) : Nat) : Int) - 1))), (z 12), (z 13), (eB (evP (la.drop (m + 1)) x)), (eB x), (eB (gm (evP (la.drop (m + 1)) x) x)), u1, (eN m), (v3 5), (eB (la.getD m 0)), (eB ((gm (evP (la.drop (m + 1)) x) x) ^^^ (la.getD m 0))), undef]) (by rw [e0, e1, e2, e3, e4, e6, e7, e8]) ?_
      clear e0 e1 e2 e3 e4 e6 e7 e8
      replace h1 := h1.step o5 no_any
      clear hR
      replace oW := oW.tail o5 tl_no
      replace o1 := o1.tail o5 tl_no
      refine inb_n (then_n ?_)
      refine plain ?_
      refine wpL.is (v := (eN m)) rfl (d_move (v := (eN m)) rfl) ?_
      refine wpL.is (v := (eI (((m : Nat) : Int) - 1))) rfl (d_sub (k := .i64) (m := ((m : Nat) : Int)) (n := 1) rfl rfl (r := ((m : Nat) : Int) - 1) (IntWalk.i64_in _ (by omega))) ?_
      refine wpL.is (v := (eI (((m : Nat) : Int) - 1))) rfl (d_assign (v := (eI (((m : Nat) : Int) - 1))) rfl) ?_
      refine wpL.flat [u1, (eB x), undef, undef, (eB 0), (eB ((gm (evP (la.drop (m + 1)) x) x) ^^^ (la.getD m 0))), (eI (((m : Nat) : Int) - 1)), u1, (eN la.length), (eI (((la.length : Nat) : Int) - 1)), (eN m), (Value.bool (decide (0 ≤ (((m + 1) : Nat) : Int) - 1))), (eN m), (eI (((m : Nat) : Int) - 1)), (eB (evP (la.drop (m + 1)) x)), (eB x), (eB (gm (evP (la.drop (m + 1)) x) x)), u1, (eN m), (v3 5), (eB (la.getD m 0)), (eB ((gm (evP (la.drop (m + 1)) x) x) ^^^ (la.getD m 0))), undef] (by kernel_rfl) ?_
      refine wpL.done ?_
      refine then_n ?_
      refine ⟨[u1, (eB x), undef, undef, (eB 0), (eB (evP (la.drop m) x)), (eI (((m : Nat) : Int) - 1)), u1, (eN la.length), (eI (((la.length : Nat) : Int) - 1)), (eN m), (Value.bool (decide (0 ≤ (((m + 1) : Nat) : Int) - 1))), (eN m), (eI (((m : Nat) : Int) - 1)), (eB (evP (la.drop (m + 1)) x)), (eB x), (eB (gm (evP (la.drop (m + 1)) x) x)), u1, (eN m), (v3 5), (eB (la.getD m 0)), (eB ((gm (evP (la.drop (m + 1)) x) x) ^^^ (la.getD m 0))), undef], m, (congrArg (fun l_ => fr l_ _) (show ([u1, (eB x), undef, undef, (eB 0), (eB ((gm (evP (la.drop (m + 1)) x) x) ^^^ (la.getD m 0))), (eI (((m : Nat) : Int) - 1)), u1, (eN la.length), (eI (((la.length : Nat) : Int) - 1)), (eN m), (Value.bool (decide (0 ≤ (((m + 1) : Nat) : Int) - 1))), (eN m), (eI (((m : Nat) : Int) - 1)), (eB (evP (la.drop (m + 1)) x)), (eB x), (eB (gm (evP (la.drop (m + 1)) x) x)), u1, (eN m), (v3 5), (eB (la.getD m 0)), (eB ((gm (evP (la.drop (m + 1)) x) x) ^^^ (la.getD m 0))), undef] : List Value) = [u1, (eB x), undef, undef, (eB 0), (eB (evP (la.drop m) x)), (eI (((m : Nat) : Int) - 1)), u1, (eN la.length), (eI (((la.length : Nat) : Int) - 1)), (eN m), (Value.bool (decide (0 ≤ (((m + 1) : Nat) : Int) - 1))), (eN m), (eI (((m : Nat) : Int) - 1)), (eB (evP (la.drop (m + 1)) x)), (eB x), (eB (gm (evP (la.drop (m + 1)) x) x)), u1, (eN m), (v3 5), (eB (la.getD m 0)), (eB ((gm (evP (la.drop (m + 1)) x) x) ^^^ (la.getD m 0))), undef] from reslot [u1, (eB x), undef, undef, (eB 0), (eB ((gm (evP (la.drop (m + 1)) x) x) ^^^ (la.getD m 0))), (eI (((m : Nat) : Int) - 1)), u1, (eN la.length), (eI (((la.length : Nat) : Int) - 1)), (eN m), (Value.bool (decide (0 ≤ (((m + 1) : Nat) : Int) - 1))), (eN m), (eI (((m : Nat) : Int) - 1)), (eB (evP (la.drop (m + 1)) x)), (eB x), (eB (gm (evP (la.drop (m + 1)) x) x)), u1, (eN m), (v3 5), (eB (la.getD m 0)), (eB ((gm (evP (la.drop (m + 1)) x) x) ^^^ (la.getD m 0))), undef] 5 (congrArg eB (evP_step la x (by omega))))), rfl, ⟨?_, ?_⟩, ?_⟩
      · (try dsimp only)
        all_goals (omega)
      · (try dsimp only)
        all_goals (exact o1)
      · (try dsimp only)
        all_goals (omega)
    · skip
      refine wpIn_exit ?_
      refine then_x (then_x (inb_e ?_))
      refine then_n ?_
      refine wpIn_seq ?_
      refine plain ?_
      refine wpL.is (v := (eB (evP (la.drop n) x))) rfl (d_move (v := (eB (evP (la.drop n) x))) rfl) ?_
      refine wpL.is (v := (eB (evP (la.drop n) x))) rfl (d_assign (v := (eB (evP (la.drop n) x))) rfl) ?_
      refine wpL.flat [u1, (eB x), undef, undef, (eB (evP (la.drop n) x)), (eB (evP (la.drop n) x)), (eI (((n : Nat) : Int) - 1)), u1, (eN la.length), (eI (((la.length : Nat) : Int) - 1)), (eI (((n : Nat) : Int) - 1)), (Value.bool (decide (0 ≤ ((n : Nat) : Int) - 1))), (z 12), (z 13), (z 14), (z 15), (z 16), (z 17), (z 18), (z 19), (z 20), (z 21), (eB (evP (la.drop n) x))] (by kernel_rfl) ?_
      refine wpL.done ?_
      refine then_n ?_
      refine wpIn_ret ?_
      refine leave0 (v := (eB (evP (la.drop n) x))) (res1 Try.results19 rfl) ?_
      obtain rfl : n = 0 := by omega
      exact ⟨rfl, oW⟩

set_option maxRecDepth 20000 in
set_option maxHeartbeats 1000000 in
theorem ref3Div_ok (la lb : List UInt8) (u1 u2 : Value) (W : World) (h1 : Ps No (Seq kB la u1) W) (h2 : Ps No (Seq kB lb u2) W) (g1 : la.length ≤ 1048576) (g2 : lb.length ≤ 1048576) :
    CW Try.prog 22 #[u1, u2] W (Rt (RDiv (quoP la lb) (remP la lb) (isP lb) W)) := by
  have oW : Only No W W := Only.refl _ _
  refine enter (al := [u1, u2]) (k := 79) (l := [u1, u2, undef, undef, undef, undef, undef, undef, undef, undef, undef, undef, undef, undef, undef, undef, undef, undef, undef, undef, undef, undef, undef, undef, undef, undef, undef, undef, undef, undef, undef, undef, undef, undef, undef, undef, undef, undef, undef, undef, undef, undef, undef, undef, undef, undef, undef, undef, undef, undef, undef, undef, undef, undef, undef, undef, undef, undef, undef, undef, undef, undef, undef, undef, undef, undef, undef, undef, undef, undef, undef, undef, undef, undef, undef, undef, undef, undef, undef, undef, undef]) Try.func22 rfl Try.ntmps22 rfl rfl ?_
  have t1 := trimL_len la
  have t2 := trimL_len lb
  refine wpIn_seq ?_
  refine plain ?_
  refine wpL.is (v := (Value.slice none 0 0)) rfl (d_assign (v := (Value.slice none 0 0)) rfl) ?_
  refine wpL.is (v := (Value.slice none 0 0)) rfl (d_assign (v := (Value.slice none 0 0)) rfl) ?_
  refine wpL.is (v := (Value.bool false)) rfl (d_assign (v := (Value.bool false)) rfl) ?_
  refine wpL.flat [u1, u2, undef, undef, (Value.slice none 0 0), (Value.slice none 0 0), (Value.bool false), undef, undef, undef, undef, undef, undef, undef, undef, undef, undef, undef, undef, undef, undef, undef, undef, undef, undef, undef, undef, undef, undef, undef, undef, undef, undef, undef, undef, undef, undef, undef, undef, undef, undef, undef, undef, undef, undef, undef, undef, undef, undef, undef, undef, undef, undef, undef, undef, undef, undef, undef, undef, undef, undef, undef, undef, undef, undef, undef, undef, undef, undef, undef, undef, undef, undef, undef, undef, undef, undef, undef, undef, undef, undef] (by kernel_rfl) ?_
  refine wpL.done ?_
  refine then_n ?_
  refine wpIn_seq ?_
  refine plain ?_
  refine wpL.is (v := u2) rfl (d_move (v := u2) rfl) ?_
  refine wpL.op rfl (d_call (xl := [.tmp 13]) (al := [u2]) Try.func25 (by kernel_rfl) rfl rfl rfl (ref3Trim_ok lb u2 _ (Ps.no h2) (by first | omega | (simp; done) | (simp; omega)))) ?_
  rintro u3 w1 f4
  replace f4 := f4.ps
  obtain ⟨f4, o2⟩ := f4
  replace f4 := f4.less (Y := (Old W.heap.size)) (old_old oW.size)
  replace h1 := h1.step0 o2
  replace h2 := h2.step0 o2
  replace oW := oW.tail0 o2
  refine wpL.is (v := u3) rfl (d_assign (v := u3) rfl) ?_
  refine wpL.flat [u1, u3, undef, undef, (Value.slice none 0 0), (Value.slice none 0 0), (Value.bool false), undef, undef, undef, undef, undef, undef, u2, u3, undef, undef, undef, undef, undef, undef, undef, undef, undef, undef, undef, undef, undef, undef, undef, undef, undef, undef, undef, undef, undef, undef, undef, undef, undef, undef, undef, undef, undef, undef, undef, undef, undef, undef, undef, undef, undef, undef, undef, undef, undef, undef, undef, undef, undef, undef, undef, undef, undef, undef, undef, undef, undef, undef, undef, undef, undef, undef, undef, undef, undef, undef, undef, undef, undef, undef] (by kernel_rfl) ?_
  refine wpL.done ?_
  refine then_n ?_
  refine wpIn_seq ?_
  refine wpIn_seq ?_
  refine plain ?_
  refine wpL.is (v := u3) rfl (d_move (v := u3) rfl) ?_
  refine wpL.is (v := (eN ((trimL lb).length))) rfl (d_lenS rfl Try.underlying23 rfl f4) ?_
  refine wpL.is (v := (Value.bool (decide (((trimL lb).length) = 0)))) rfl (n_eql (a := ((trimL lb).length)) (b := 0) rfl rfl rfl) ?_
  refine wpL.flat [u1, u3, undef, undef, (Value.slice none 0 0), (Value.slice none 0 0), (Value.bool false), undef, undef, undef, undef, undef, undef, u2, u3, u3, (eN ((trimL lb).length)), (Value.bool (decide (((trimL lb).length) = 0))), undef, undef, undef, undef, undef, undef, undef, undef, undef, undef, undef, undef, undef, undef, undef, undef, undef, undef, undef, undef, undef, undef, undef, undef, undef, undef, undef, undef, undef, undef, undef, undef, undef, undef, undef, undef, undef, undef, undef, undef, undef, undef, undef, undef, undef, undef, undef, undef, undef, undef, undef, undef, undef, undef, undef, undef, undef, undef, undef, undef, undef, undef, undef] (by kernel_rfl) ?_
  refine wpL.done ?_
  refine then_n ?_
  refine cond_if rfl (fun c0 => ?_) (fun c0 => ?_)
  · skip
    refine wpIn_seq ?_
    refine plain ?_
    refine wpL.is (v := (Value.slice none 0 0)) rfl (d_assign (v := (Value.slice none 0 0)) rfl) ?_
    refine wpL.is (v := (Value.slice none 0 0)) rfl (d_assign (v := (Value.slice none 0 0)) rfl) ?_
    refine wpL.is (v := (Value.bool false)) rfl (d_assign (v := (Value.bool false)) rfl) ?_
    refine wpL.flat [u1, u3, undef, undef, (Value.slice none 0 0), (Value.slice none 0 0), (Value.bool false), undef, undef, undef, undef, undef, undef, u2, u3, u3, (eN ((trimL lb).length)), (Value.bool (decide (((trimL lb).length) = 0))), undef, undef, undef, undef, undef, undef, undef, undef, undef, undef, undef, undef, undef, undef, undef, undef, undef, undef, undef, undef, undef, undef, undef, undef, undef, undef, undef, undef, undef, undef, undef, undef, undef, undef, undef, undef, undef, undef, undef, undef, undef, undef, undef, undef, undef, undef, undef, undef, undef, undef, undef, undef, undef, undef, undef, undef, undef, undef, undef, undef, undef, undef, undef] (by kernel_rfl) ?_
    refine wpL.done ?_
    refine then_n ?_
    refine wpIn_ret ?_
    refine then_r ?_
    refine leave0 (v := (Value.tuple #[(Value.slice none 0 0), (Value.slice none 0 0), (Value.bool false)])) (res3 Try.results22 rfl rfl rfl) ?_
    exact ⟨_, _, by rw [isP_no (List.eq_nil_of_length_eq_zero c0)], by rw [(div_no (List.eq_nil_of_length_eq_zero c0)).1]; exact seq_nil, by rw [(div_no (List.eq_nil_of_length_eq_zero c0)).2]; exact seq_nil, oW⟩
  · skip
    refine wpIn_skip ?_
    refine then_n ?_
    refine wpIn_seq ?_
    refine plain ?_
    refine wpL.is (v := u1) rfl (d_move (v := u1) rfl) ?_
    refine wpL.op rfl (d_call (xl := [.tmp 18]) (al := [u1]) Try.func25 (by kernel_rfl) rfl rfl rfl (ref3Trim_ok la u1 _ (Ps.no h1) (by first | omega | (simp; done) | (simp; omega)))) ?_
    rintro u7 w5 f8
    obtain ⟨bo9, f8, g10, o6⟩ := f8
    have q_oW_r := qnew g10 oW.size
    replace h1 := h1.newq o6 g10
    replace h2 := h2.newq o6 g10
    replace f4 := f4.newq o6 g10
    replace oW := oW.tail0 o6
    refine wpL.is (v := u7) rfl (d_assign (v := u7) rfl) ?_
    refine wpL.flat [u1, u3, undef, undef, (Value.slice none 0 0), (Value.slice none 0 0), (Value.bool false), u7, undef, undef, undef, undef, undef, u2, u3, u3, (eN ((trimL lb).length)), (Value.bool (decide (((trimL lb).length) = 0))), u1, u7, undef, undef, undef, undef, undef, undef, undef, undef, undef, undef, undef, undef, undef, undef, undef, undef, undef, undef, undef, undef, undef, undef, undef, undef, undef, undef, undef, undef, undef, undef, undef, undef, undef, undef, undef, undef, undef, undef, undef, undef, undef, undef, undef, undef, undef, undef, undef, undef, undef, undef, undef, undef, undef, undef, undef, undef, undef, undef, undef, undef, undef] (by kernel_rfl) ?_
    refine wpL.done ?_
    have hb : 0 < (trimL lb).length := by omega
    have htop : (trimL lb).getD ((trimL lb).length - 1) 0 ≠ 0 := trimL_top hb
    refine then_n ?_
    refine wpIn_seq ?_
    refine plain ?_
    refine wpL.is (v := u7) rfl (d_move (v := u7) rfl) ?_
    refine wpL.is (v := (eN ((trimL la).length))) rfl (d_lenS rfl Try.underlying23 rfl (f8.seq (X := No) (fun _ _ h => h))) ?_
    refine wpL.op rfl (d_make1 (n := (trimL la).length) Try.underlying23 s_ti5 rfl rfl (by omega) (by omega) rfl) ?_
    rintro _ w11 ⟨q, rfl, g12, a13, o14⟩
    replace a13 : Arr 5 q ((List.replicate ((trimL la).length) 0).map eB) w11 := by rw [List.map_replicate]; exact a13
    have l_q : (List.replicate ((trimL la).length) 0 : List UInt8).length = (trimL la).length := by simp
    have nq_r_q : ∀ x, bo9 = some x → ¬ x = q := fun x hx e => by have := f8.lts x hx; omega
    have g_oW_q : W.heap.size ≤ q := Nat.le_trans oW.size g12
    replace h1 := h1.new o14 g12
    replace h2 := h2.new o14 g12
    replace f4 := f4.new o14 g12
    replace f8 := f8.step0 o14
    replace oW := oW.tail0 o14
    refine wpL.flat [u1, u3, undef, undef, (Value.slice none 0 0), (Value.slice none 0 0), (Value.bool false), u7, undef, undef, undef, undef, undef, u2, u3, u3, (eN ((trimL lb).length)), (Value.bool (decide (((trimL lb).length) = 0))), u1, u7, u7, (eN ((trimL la).length)), (sli q 0 ((trimL la).length) ((trimL la).length)), undef, undef, undef, undef, undef, undef, undef, undef, undef, undef, undef, undef, undef, undef, undef, undef, undef, undef, undef, undef, undef, undef, undef, undef, undef, undef, undef, undef, undef, undef, undef, undef, undef, undef, undef, undef, undef, undef, undef, undef, undef, undef, undef, undef, undef, undef, undef, undef, undef, undef, undef, undef, undef, undef, undef, undef, undef, undef] (by kernel_rfl) ?_
    refine wpL.is (v := (sli q 0 ((trimL la).length) ((trimL la).length))) rfl (d_assign (v := (sli q 0 ((trimL la).length) ((trimL la).length))) rfl) ?_
    refine wpL.flat [u1, u3, undef, undef, (Value.slice none 0 0), (Value.slice none 0 0), (Value.bool false), u7, (sli q 0 ((trimL la).length) ((trimL la).length)), undef, undef, undef, undef, u2, u3, u3, (eN ((trimL lb).length)), (Value.bool (decide (((trimL lb).length) = 0))), u1, u7, u7, (eN ((trimL la).length)), (sli q 0 ((trimL la).length) ((trimL la).length)), undef, undef, undef, undef, undef, undef, undef, undef, undef, undef, undef, undef, undef, undef, undef, undef, undef, undef, undef, undef, undef, undef, undef, undef, undef, undef, undef, undef, undef, undef, undef, undef, undef, undef, undef, undef, undef, undef, undef, undef, undef, undef, undef, undef, undef, undef, undef, undef, undef, undef, undef, undef, undef, undef, undef, undef, undef, undef] (by kernel_rfl) ?_
    refine wpL.done ?_
    refine then_n ?_
    refine wpIn_seq ?_
    refine plain ?_
    refine wpL.is (v := u3) rfl (d_move (v := u3) rfl) ?_
    refine wpL.is (v := u3) rfl (d_move (v := u3) rfl) ?_
    refine wpL.is (v := (eN ((trimL lb).length))) rfl (d_lenS rfl Try.underlying23 rfl f4) ?_
    refine wpL.flat [u1, u3, undef, undef, (Value.slice none 0 0), (Value.slice none 0 0), (Value.bool false), u7, (sli q 0 ((trimL la).length) ((trimL la).length)), undef, undef, undef, undef, u2, u3, u3, (eN ((trimL lb).length)), (Value.bool (decide (((trimL lb).length) = 0))), u1, u7, u7, (eN ((trimL la).length)), (sli q 0 ((trimL la).length) ((trimL la).length)), u3, u3, (eN ((trimL lb).length)), undef, undef, undef, undef, undef, undef, undef, undef, undef, undef, undef, undef, undef, undef, undef, undef, undef, undef, undef, undef, undef, undef, undef, undef, undef, undef, undef, undef, undef, undef, undef, undef, undef, undef, undef, undef, undef, undef, undef, undef, undef, undef, undef, undef, undef, undef, undef, undef, undef, undef, undef, undef, undef, undef, undef] (by kernel_rfl) ?_
    refine wpL.is (v := (eN (((trimL lb).length) - 1))) rfl (n_sub (a := ((trimL lb).length)) (b := 1) rfl rfl (by omega) (by omega)) ?_
    refine wpL.op rfl (d_indexS (q := kB) (xs := (trimL lb)) (v := ((trimL lb).getD (((trimL lb).length) - 1) 0)) Try.underlying23 s_ti5 rfl f4 (show _ = Value.int _ ((((trimL lb).length) - 1 : Nat) : Int) from rfl) (by omega) (g_at (by have := trimL_len lb; first | omega | (simp; done) | (simp; omega)))) ?_
    rintro u15 _ ⟨f16, rfl⟩
    refine wpL.is (v := (eB ((trimL lb).getD (((trimL lb).length) - 1) 0))) rfl (d_loadAt (enc := eB) (v := ((trimL lb).getD (((trimL lb).length) - 1) 0)) ⟨_, Try.underlying5, rfl⟩ rfl f16) ?_
    refine wpL.flat [u1, u3, undef, undef, (Value.slice none 0 0), (Value.slice none 0 0), (Value.bool false), u7, (sli q 0 ((trimL la).length) ((trimL la).length)), undef, undef, undef, undef, u2, u3, u3, (eN ((trimL lb).length)), (Value.bool (decide (((trimL lb).length) = 0))), u1, u7, u7, (eN ((trimL la).length)), (sli q 0 ((trimL la).length) ((trimL la).length)), u3, u3, (eN ((trimL lb).length)), (eN (((trimL lb).length) - 1)), u15, (eB ((trimL lb).getD (((trimL lb).length) - 1) 0)), undef, undef, undef, undef, undef, undef, undef, undef, undef, undef, undef, undef, undef, undef, undef, undef, undef, undef, undef, undef, undef, undef, undef, undef, undef, undef, undef, undef, undef, undef, undef, undef, undef, undef, undef, undef, undef, undef, undef, undef, undef, undef, undef, undef, undef, undef, undef, undef, undef, undef, undef, undef] (by kernel_rfl) ?_
    refine wpL.op rfl (d_call (xl := [.tmp 28]) (al := [(eB ((trimL lb).getD (((trimL lb).length) - 1) 0))]) Try.func31 (by kernel_rfl) rfl rfl rfl (ref2Inv_ok ((trimL lb).getD (((trimL lb).length) - 1) 0) _)) ?_
    rintro _ w17 ⟨rfl, o18⟩
    replace h1 := h1.step0 o18
    replace h2 := h2.step0 o18
    replace f4 := f4.step0 o18
    replace f16 := f16.step0 o18
    replace a13 := a13.step0 o18
    replace f8 := f8.step0 o18
    replace oW := oW.tail0 o18
    refine wpL.is (v := (eB (invB ((trimL lb).getD (((trimL lb).length) - 1) 0)))) rfl (d_assign (v := (eB (invB ((trimL lb).getD (((trimL lb).length) - 1) 0)))) rfl) ?_
    refine wpL.flat [u1, u3, undef, undef, (Value.slice none 0 0), (Value.slice none 0 0), (Value.bool false), u7, (sli q 0 ((trimL la).length) ((trimL la).length)), (eB (invB ((trimL lb).getD (((trimL lb).length) - 1) 0))), undef, undef, undef, u2, u3, u3, (eN ((trimL lb).length)), (Value.bool (decide (((trimL lb).length) = 0))), u1, u7, u7, (eN ((trimL la).length)), (sli q 0 ((trimL la).length) ((trimL la).length)), u3, u3, (eN ((trimL lb).length)), (eN (((trimL lb).length) - 1)), u15, (eB ((trimL lb).getD (((trimL lb).length) - 1) 0)), (eB (invB ((trimL lb).getD (((trimL lb).length) - 1) 0))), undef, undef, undef, undef, undef, undef, undef, undef, undef, undef, undef, undef, undef, undef, undef, undef, undef, undef, undef, undef, undef, undef, undef, undef, undef, undef, undef, undef, undef, undef, undef, undef, undef, undef, undef, undef, undef, undef, undef, undef, undef, undef, undef, undef, undef, undef, undef, undef, undef, undef, undef] (by kernel_rfl) ?_
    refine wpL.done ?_
    refine then_n ?_
    refine wpIn_seq ?_
    refine wpIn_block ?_
    have h_lt_q := a13.lt
    have h_lts_r := f8.lts
    refine loop2 (fun (s_ : (List UInt8) × (List UInt8) × (Option Nat) × (Value)) => match s_ with | ⟨ql, rl, bo_r, u_r⟩ => fun (z : Nat → Value) => ([u1, u3, undef, undef, (Value.slice none 0 0), (Value.slice none 0 0), (Value.bool false), u_r, (sli q 0 ((trimL la).length) ((trimL la).length)), (eB (invB ((trimL lb).getD (((trimL lb).length) - 1) 0))), (z 10), (z 11), (z 12), u2, u3, u3, (eN ((trimL lb).length)), (Value.bool (decide (((trimL lb).length) = 0))), u1, u7, u7, (eN ((trimL la).length)), (sli q 0 ((trimL la).length) ((trimL la).length)), u3, u3, (eN ((trimL lb).length)), (eN (((trimL lb).length) - 1)), u15, (eB ((trimL lb).getD (((trimL lb).length) - 1) 0)), (eB (invB ((trimL lb).getD (((trimL lb).length) - 1) 0))), (z 30), (z 31), (z 32), (z 33), (z 34), (z 35), (z 36), (z 37), (z 38), (z 39), (z 40), (z 41), (z 42), (z 43), (z 44), (z 45), (z 46), (z 47), (z 48), (z 49), (z 50), (z 51), (z 52), (z 53), (z 54), (z 55), (z 56), (z 57), (z 58), (z 59), (z 60), (z 61), (z 62), (z 63), (z 64), (z 65), (z 66), (z 67), (z 68), (z 69), (z 70), (z 71), (z 72), (z 73), (z 74), (z 75), (z 76), (z 77), undef, undef, undef] : List Value)) (fun (s_ : (List UInt8) × (List UInt8) × (Option Nat) × (Value)) => match s_ with | ⟨ql, rl, bo_r, u_r⟩ => fun (w_ : World) => (rl.length ≤ (trimL la).length) ∧ (Div3 la (trimL lb) ql rl) ∧ Only (Or1 q (Orq bo9 No)) w17 w_ ∧ ql.length = (trimL la).length ∧ Arr 5 q (ql.map eB) w_ ∧ Ow 5 1 bo_r u_r (rl).length ((rl).map eB) w_ ∧ Fr bo_r bo9 w17.heap.size) (fun (s_ : (List UInt8) × (List UInt8) × (Option Nat) × (Value)) => match s_ with | ⟨ql, rl, bo_r, u_r⟩ => rl.length) ⟨List.replicate (trimL la).length 0, trimL la, bo9, u7⟩ rfl ?_ ?_
    · refine ⟨?_, ?_, ?_, ?_, ?_, ?_, ?_⟩
      · (try dsimp only)
        all_goals (exact Nat.le_refl _)
      · (try dsimp only)
        all_goals (exact Div3.init)
      · (try dsimp only)
        all_goals (exact Only.refl _ _)
      · (try dsimp only)
        all_goals (exact l_q)
      · (try dsimp only)
        all_goals (exact a13)
      · (try dsimp only)
        all_goals (exact f8)
      · (try dsimp only)
        all_goals (exact Fr.same)
    · rintro ⟨ql, rl, bo_r, u_r⟩ z w20 ⟨hr, hI, o19, l_q, a13, f8, qq_r⟩
      (try dsimp only)
      replace h1 := h1.re o19 (or1_mono (orq_mono no_any)) (xx_or1 (xx_re qq_r xx_id))
      replace h2 := h2.re o19 (or1_mono (orq_mono no_any)) (xx_or1 (xx_re qq_r xx_id))
      replace f4 := f4.re o19 (or1_mono (orq_mono no_any)) (xx_or1 (xx_re qq_r xx_id))
      replace f16 := f16.re o19 (or1_mono (orq_mono no_any)) (xx_or1 (xx_re qq_r xx_id))
      have tq_oW := oW.size
      replace oW := oW.tail o19 (tl_new g_oW_q (tl_q q_oW_r (fun _ e => by cases e) tl_no))
      replace q_oW_r := qtr qq_r q_oW_r tq_oW
      replace nq_r_q := nqs nq_r_q qq_r h_lt_q
      have q_o19_r := qq_r
      refine wpIn_seq ?_
      refine wpIn_seq ?_
      refine plain ?_
      refine wpL.is (v := u_r) rfl (d_move (v := u_r) rfl) ?_
      refine wpL.is (v := (eN rl.length)) rfl (d_lenS rfl Try.underlying23 rfl (f8.seq (X := No) (fun _ _ h => h))) ?_
      refine wpL.is (v := u3) rfl (d_move (v := u3) rfl) ?_
      refine wpL.flat [u1, u3, undef, undef, (Value.slice none 0 0), (Value.slice none 0 0), (Value.bool false), u_r, (sli q 0 ((trimL la).length) ((trimL la).length)), (eB (invB ((trimL lb).getD (((trimL lb).length) - 1) 0))), (z 10), (z 11), (z 12), u2, u3, u3, (eN ((trimL lb).length)), (Value.bool (decide (((trimL lb).length) = 0))), u1, u7, u7, (eN ((trimL la).length)), (sli q 0 ((trimL la).length) ((trimL la).length)), u3, u3, (eN ((trimL lb).length)), (eN (((trimL lb).length) - 1)), u15, (eB ((trimL lb).getD (((trimL lb).length) - 1) 0)), (eB (invB ((trimL lb).getD (((trimL lb).length) - 1) 0))), u_r, (eN rl.length), u3, (z 33), (z 34), (z 35), (z 36), (z 37), (z 38), (z 39), (z 40), (z 41), (z 42), (z 43), (z 44), (z 45), (z 46), (z 47), (z 48), (z 49), (z 50), (z 51), (z 52), (z 53), (z 54), (z 55), (z 56), (z 57), (z 58), (z 59), (z 60), (z 61), (z 62), (z 63), (z 64), (z 65), (z 66), (z 67), (z 68), (z 69), (z 70), (z 71), (z 72), (z 73), (z 74), (z 75), (z 76), (z 77), undef, undef, undef] (by kernel_rfl) ?_
      refine wpL.is (v := (eN ((trimL lb).length))) rfl (d_lenS rfl Try.underlying23 rfl f4) ?_
      refine wpL.is (v := (Value.bool (decide (((trimL lb).length) ≤ rl.length)))) rfl (n_geq (a := rl.length) (b := ((trimL lb).length)) rfl rfl rfl) ?_
      refine wpL.flat [u1, u3, undef, undef, (Value.slice none 0 0), (Value.slice none 0 0), (Value.bool false), u_r, (sli q 0 ((trimL la).length) ((trimL la).length)), (eB (invB ((trimL lb).getD (((trimL lb).length) - 1) 0))), (z 10), (z 11), (z 12), u2, u3, u3, (eN ((trimL lb).length)), (Value.bool (decide (((trimL lb).length) = 0))), u1, u7, u7, (eN ((trimL la).length)), (sli q 0 ((trimL la).length) ((trimL la).length)), u3, u3, (eN ((trimL lb).length)), (eN (((trimL lb).length) - 1)), u15, (eB ((trimL lb).getD (((trimL lb).length) - 1) 0)), (eB (invB ((trimL lb).getD (((trimL lb).length) - 1) 0))), u_r, (eN rl.length), u3, (eN ((trimL lb).length)), (Value.bool (decide (((trimL lb).length) ≤ rl.length))), (z 35), (z 36), (z 37), (z 38), (z 39), (z 40), (z 41), (z 42), (z 43), (z 44), (z 45), (z 46), (z 47), (z 48), (z 49), (z 50), (z 51), (z 52), (z 53), (z 54), (z 55), (z 56), (z 57), (z 58), (z 59), (z 60), (z 61), (z 62), (z 63), (z 64), (z 65), (z 66), (z 67), (z 68), (z 69), (z 70), (z 71), (z 72), (z 73), (z 74), (z 75), (z 76), (z 77), undef, undef, undef] (by kernel_rfl) ?_
      refine wpL.done ?_
      refine then_n ?_
      refine cond_if rfl (fun c1 => ?_) (fun c1 => ?_)
      · skip
        refine wpIn_skip ?_
        refine then_n ?_
        refine wpIn_block ?_
        refine wpIn_seq ?_
        refine plain ?_
        refine wpL.is (v := u_r) rfl (d_move (v := u_r) rfl) ?_
        refine wpL.is (v := (eN rl.length)) rfl (d_lenS rfl Try.underlying23 rfl (f8.seq (X := No) (fun _ _ h => h))) ?_
        refine wpL.is (v := u3) rfl (d_move (v := u3) rfl) ?_
        refine wpL.flat [u1, u3, undef, undef, (Value.slice none 0 0), (Value.slice none 0 0), (Value.bool false), u_r, (sli q 0 ((trimL la).length) ((trimL la).length)), (eB (invB ((trimL lb).getD (((trimL lb).length) - 1) 0))), (z 10), (z 11), (z 12), u2, u3, u3, (eN ((trimL lb).length)), (Value.bool (decide (((trimL lb).length) = 0))), u1, u7, u7, (eN ((trimL la).length)), (sli q 0 ((trimL la).length) ((trimL la).length)), u3, u3, (eN ((trimL lb).length)), (eN (((trimL lb).length) - 1)), u15, (eB ((trimL lb).getD (((trimL lb).length) - 1) 0)), (eB (invB ((trimL lb).getD (((trimL lb).length) - 1) 0))), u_r, (eN rl.length), u3, (eN ((trimL lb).length)), (Value.bool (decide (((trimL lb).length) ≤ rl.length))), u_r, (eN rl.length), u3, (z 38), (z 39), (z 40), (z 41), (z 42), (z 43), (z 44), (z 45), (z 46), (z 47), (z 48), (z 49), (z 50), (z 51), (z 52), (z 53), (z 54), (z 55), (z 56), (z 57), (z 58), (z 59), (z 60), (z 61), (z 62), (z 63), (z 64), (z 65), (z 66), (z 67), (z 68), (z 69), (z 70), (z 71), (z 72), (z 73), (z 74), (z 75), (z 76), (z 77), undef, undef, undef] (by kernel_rfl) ?_
        refine wpL.is (v := (eN ((trimL lb).length))) rfl (d_lenS rfl Try.underlying23 rfl f4) ?_
        refine wpL.is (v := (eN (rl.length - ((trimL lb).length)))) rfl (n_sub (a := rl.length) (b := ((trimL lb).length)) rfl rfl (by omega) (by omega)) ?_
        refine wpL.is (v := (eN (rl.length - ((trimL lb).length)))) rfl (d_assign (v := (eN (rl.length - ((trimL lb).length)))) rfl) ?_
        refine wpL.flat [u1, u3, undef, undef, (Value.slice none 0 0), (Value.slice none 0 0), (Value.bool false), u_r, (sli q 0 ((trimL la).length) ((trimL la).length)), (eB (invB ((trimL lb).getD (((trimL lb).length) - 1) 0))), (eN (rl.length - ((trimL lb).length))), (z 11), (z 12), u2, u3, u3, (eN ((trimL lb).length)), (Value.bool (decide (((trimL lb).length) = 0))), u1, u7, u7, (eN ((trimL la).length)), (sli q 0 ((trimL la).length) ((trimL la).length)), u3, u3, (eN ((trimL lb).length)), (eN (((trimL lb).length) - 1)), u15, (eB ((trimL lb).getD (((trimL lb).length) - 1) 0)), (eB (invB ((trimL lb).getD (((trimL lb).length) - 1) 0))), u_r, (eN rl.length), u3, (eN ((trimL lb).length)), (Value.bool (decide (((trimL lb).length) ≤ rl.length))), u_r, (eN rl.length), u3, (eN ((trimL lb).length)), (eN (rl.length - ((trimL lb).length))), (z 40), (z 41), (z 42), (z 43), (z 44), (z 45), (z 46), (z 47), (z 48), (z 49), (z 50), (z 51), (z 52), (z 53), (z 54), (z 55), (z 56), (z 57), (z 58), (z 59), (z 60), (z 61), (z 62), (z 63), (z 64), (z 65), (z 66), (z 67), (z 68), (z 69), (z 70), (z 71), (z 72), (z 73), (z 74), (z 75), (z 76), (z 77), undef, undef, undef] (by kernel_rfl) ?_
        refine wpL.done ?_
        refine then_n ?_
        refine wpIn_seq ?_
        refine plain ?_
        refine wpL.is (v := u_r) rfl (d_move (v := u_r) rfl) ?_
        refine wpL.is (v := u_r) rfl (d_move (v := u_r) rfl) ?_
        refine wpL.is (v := (eN rl.length)) rfl (d_lenS rfl Try.underlying23 rfl (f8.seq (X := No) (fun _ _ h => h))) ?_
        refine wpL.flat [u1, u3, undef, undef, (Value.slice none 0 0), (Value.slice none 0 0), (Value.bool false), u_r, (sli q 0 ((trimL la).length) ((trimL la).length)), (eB (invB ((trimL lb).getD (((trimL lb).length) - 1) 0))), (eN (rl.length - ((trimL lb).length))), (z 11), (z 12), u2, u3, u3, (eN ((trimL lb).length)), (Value.bool (decide (((trimL lb).length) = 0))), u1, u7, u7, (eN ((trimL la).length)), (sli q 0 ((trimL la).length) ((trimL la).length)), u3, u3, (eN ((trimL lb).length)), (eN (((trimL lb).length) - 1)), u15, (eB ((trimL lb).getD (((trimL lb).length) - 1) 0)), (eB (invB ((trimL lb).getD (((trimL lb).length) - 1) 0))), u_r, (eN rl.length), u3, (eN ((trimL lb).length)), (Value.bool (decide (((trimL lb).length) ≤ rl.length))), u_r, (eN rl.length), u3, (eN ((trimL lb).length)), (eN (rl.length - ((trimL lb).length))), u_r, u_r, (eN rl.length), (z 43), (z 44), (z 45), (z 46), (z 47), (z 48), (z 49), (z 50), (z 51), (z 52), (z 53), (z 54), (z 55), (z 56), (z 57), (z 58), (z 59), (z 60), (z 61), (z 62), (z 63), (z 64), (z 65), (z 66), (z 67), (z 68), (z 69), (z 70), (z 71), (z 72), (z 73), (z 74), (z 75), (z 76), (z 77), undef, undef, undef] (by kernel_rfl) ?_
        refine wpL.is (v := (eN (rl.length - 1))) rfl (n_sub (a := rl.length) (b := 1) rfl rfl (by omega) (by omega)) ?_
        refine wpL.op rfl (d_indexOw (i := (rl.length - 1)) (xs := rl) (enc := eB) Try.underlying23 s_ti5 rfl f8 (show _ = Value.int _ ((rl.length - 1 : Nat) : Int) from rfl) (by first | omega | (simp; done) | (simp; omega))) ?_
        rintro u21 _ ⟨p22, rfl⟩
        refine wpL.is (v := (eB (rl.getD (rl.length - 1) 0))) rfl (d_loadOw (i := (rl.length - 1)) (xs := rl) (enc := eB) (v := (rl.getD (rl.length - 1) 0)) ⟨_, Try.underlying5, rfl⟩ rfl p22 f8 (g_at (by first | omega | (simp; done) | (simp; omega)))) ?_
        refine wpL.flat [u1, u3, undef, undef, (Value.slice none 0 0), (Value.slice none 0 0), (Value.bool false), u_r, (sli q 0 ((trimL la).length) ((trimL la).length)), (eB (invB ((trimL lb).getD (((trimL lb).length) - 1) 0))), (eN (rl.length - ((trimL lb).length))), (z 11), (z 12), u2, u3, u3, (eN ((trimL lb).length)), (Value.bool (decide (((trimL lb).length) = 0))), u1, u7, u7, (eN ((trimL la).length)), (sli q 0 ((trimL la).length) ((trimL la).length)), u3, u3, (eN ((trimL lb).length)), (eN (((trimL lb).length) - 1)), u15, (eB ((trimL lb).getD (((trimL lb).length) - 1) 0)), (eB (invB ((trimL lb).getD (((trimL lb).length) - 1) 0))), u_r, (eN rl.length), u3, (eN ((trimL lb).length)), (Value.bool (decide (((trimL lb).length) ≤ rl.length))), u_r, (eN rl.length), u3, (eN ((trimL lb).length)), (eN (rl.length - ((trimL lb).length))), u_r, u_r, (eN rl.length), (eN (rl.length - 1)), u21, (eB (rl.getD (rl.length - 1) 0)), (z 46), (z 47), (z 48), (z 49), (z 50), (z 51), (z 52), (z 53), (z 54), (z 55), (z 56), (z 57), (z 58), (z 59), (z 60), (z 61), (z 62), (z 63), (z 64), (z 65), (z 66), (z 67), (z 68), (z 69), (z 70), (z 71), (z 72), (z 73), (z 74), (z 75), (z 76), (z 77), undef, undef, undef] (by kernel_rfl) ?_
        refine wpL.is (v := (eB (invB ((trimL lb).getD (((trimL lb).length) - 1) 0)))) rfl (d_move (v := (eB (invB ((trimL lb).getD (((trimL lb).length) - 1) 0)))) rfl) ?_
        refine wpL.op rfl (d_call (xl := [.tmp 45, .tmp 46]) (al := [(eB (rl.getD (rl.length - 1) 0)), (eB (invB ((trimL lb).getD (((trimL lb).length) - 1) 0)))]) Try.func20 (by kernel_rfl) rfl rfl rfl (ref2Mul_ok (rl.getD (rl.length - 1) 0) (invB ((trimL lb).getD (((trimL lb).length) - 1) 0)) _)) ?_
        rintro _ w23 ⟨rfl, o24⟩
        replace h1 := h1.step0 o24
        replace h2 := h2.step0 o24
        replace f4 := f4.step0 o24
        replace f16 := f16.step0 o24
        replace a13 := a13.step0 o24
        replace f8 := f8.step0 o24
        replace oW := oW.tail0 o24
        replace o19 := o19.tail0 o24
        refine wpL.is (v := (eB (gm (rl.getD (rl.length - 1) 0) (invB ((trimL lb).getD (((trimL lb).length) - 1) 0))))) rfl (d_assign (v := (eB (gm (rl.getD (rl.length - 1) 0) (invB ((trimL lb).getD (((trimL lb).length) - 1) 0))))) rfl) ?_
        refine wpL.flat [u1, u3, undef, undef, (Value.slice none 0 0), (Value.slice none 0 0), (Value.bool false), u_r, (sli q 0 ((trimL la).length) ((trimL la).length)), (eB (invB ((trimL lb).getD (((trimL lb).length) - 1) 0))), (eN (rl.length - ((trimL lb).length))), (eB (gm (rl.getD (rl.length - 1) 0) (invB ((trimL lb).getD (((trimL lb).length) - 1) 0)))), (z 12), u2, u3, u3, (eN ((trimL lb).length)), (Value.bool (decide (((trimL lb).length) = 0))), u1, u7, u7, (eN ((trimL la).length)), (sli q 0 ((trimL la).length) ((trimL la).length)), u3, u3, (eN ((trimL lb).length)), (eN (((trimL lb).length) - 1)), u15, (eB ((trimL lb).getD (((trimL lb).length) - 1) 0)), (eB (invB ((trimL lb).getD (((trimL lb).length) - 1) 0))), u_r, (eN rl.length), u3, (eN ((trimL lb).length)), (Value.bool (decide (((trimL lb).length) ≤ rl.length))), u_r, (eN rl.length), u3, (eN ((trimL lb).length)), (eN (rl.length - ((trimL lb).length))), u_r, u_r, (eN rl.length), (eN (rl.length - 1)), u21, (eB (rl.getD (rl.length - 1) 0)), (eB (invB ((trimL lb).getD (((trimL lb).length) - 1) 0))), (eB (gm (rl.getD (rl.length - 1) 0) (invB ((trimL lb).getD (((trimL lb).length) - 1) 0)))), (z 48), (z 49), (z 50), (z 51), (z 52), (z 53), (z 54), (z 55), (z 56), (z 57), (z 58), (z 59), (z 60), (z 61), (z 62), (z 63), (z 64), (z 65), (z 66), (z 67), (z 68), (z 69), (z 70), (z 71), (z 72), (z 73), (z 74), (z 75), (z 76), (z 77), undef, undef, undef] (by kernel_rfl) ?_
        refine wpL.done ?_
        refine then_n ?_
        refine wpIn_seq ?_
        refine plain ?_
        refine wpL.is (v := (sli q 0 ((trimL la).length) ((trimL la).length))) rfl (d_move (v := (sli q 0 ((trimL la).length) ((trimL la).length))) rfl) ?_
        refine wpL.is (v := (eN (rl.length - ((trimL lb).length)))) rfl (d_move (v := (eN (rl.length - ((trimL lb).length)))) rfl) ?_
        refine wpL.is (v := (eB (gm (rl.getD (rl.length - 1) 0) (invB ((trimL lb).getD (((trimL lb).length) - 1) 0))))) rfl (d_move (v := (eB (gm (rl.getD (rl.length - 1) 0) (invB ((trimL lb).getD (((trimL lb).length) - 1) 0))))) rfl) ?_
        refine wpL.flat [u1, u3, undef, undef, (Value.slice none 0 0), (Value.slice none 0 0), (Value.bool false), u_r, (sli q 0 ((trimL la).length) ((trimL la).length)), (eB (invB ((trimL lb).getD (((trimL lb).length) - 1) 0))), (eN (rl.length - ((trimL lb).length))), (eB (gm (rl.getD (rl.length - 1) 0) (invB ((trimL lb).getD (((trimL lb).length) - 1) 0)))), (z 12), u2, u3, u3, (eN ((trimL lb).length)), (Value.bool (decide (((trimL lb).length) = 0))), u1, u7, u7, (eN ((trimL la).length)), (sli q 0 ((trimL la).length) ((trimL la).length)), u3, u3, (eN ((trimL lb).length)), (eN (((trimL lb).length) - 1)), u15, (eB ((trimL lb).getD (((trimL lb).length) - 1) 0)), (eB (invB ((trimL lb).getD (((trimL lb).length) - 1) 0))), u_r, (eN rl.length), u3, (eN ((trimL lb).length)), (Value.bool (decide (((trimL lb).length) ≤ rl.length))), u_r, (eN rl.length), u3, (eN ((trimL lb).length)), (eN (rl.length - ((trimL lb).length))), u_r, u_r, (eN rl.length), (eN (rl.length - 1)), u21, (eB (rl.getD (rl.length - 1) 0)), (eB (invB ((trimL lb).getD (((trimL lb).length) - 1) 0))), (eB (gm (rl.getD (rl.length - 1) 0) (invB ((trimL lb).getD (((trimL lb).length) - 1) 0)))), (sli q 0 ((trimL la).length) ((trimL la).length)), (eN (rl.length - ((trimL lb).length))), (eB (gm (rl.getD (rl.length - 1) 0) (invB ((trimL lb).getD (((trimL lb).length) - 1) 0)))), (z 51), (z 52), (z 53), (z 54), (z 55), (z 56), (z 57), (z 58), (z 59), (z 60), (z 61), (z 62), (z 63), (z 64), (z 65), (z 66), (z 67), (z 68), (z 69), (z 70), (z 71), (z 72), (z 73), (z 74), (z 75), (z 76), (z 77), undef, undef, undef] (by kernel_rfl) ?_
        refine wpL.is (v := (ptr q (rl.length - ((trimL lb).length)))) rfl (d_index1 (n := ((trimL la).length)) (i := (rl.length - ((trimL lb).length))) Try.underlying23 s_ti5 rfl (show _ = Value.int _ ((rl.length - ((trimL lb).length) : Nat) : Int) from rfl) (by omega)) ?_
        refine wpL.op rfl (d_store (b := q) (i := (rl.length - ((trimL lb).length))) (v := (eB (gm (rl.getD (rl.length - 1) 0) (invB ((trimL lb).getD (((trimL lb).length) - 1) 0))))) s_ti5 rfl rfl rfl a13 (by rw [List.length_map, l_q]; omega) (m_put ql (rl.length - ((trimL lb).length)) (gm (rl.getD (rl.length - 1) 0) (invB ((trimL lb).getD (((trimL lb).length) - 1) 0))) eB)) ?_
        rintro _ w25 ⟨a26, o27⟩
        replace h1 := h1.stepb o27 in1
        replace h2 := h2.stepb o27 in1
        replace f4 := f4.stepb o27 in1
        replace f16 := f16.stepb o27 in1
        replace f8 := f8.step o27 (fun x hx e => nq_r_q x hx e)
        replace oW := oW.tailb o27 g_oW_q
        replace o19 := o19.tail o27 (fun k _ e => by have : k = q := e; rw [this]; exact in1)
        replace l_q : (ql.set (rl.length - ((trimL lb).length)) (gm (rl.getD (rl.length - 1) 0) (invB ((trimL lb).getD (((trimL lb).length) - 1) 0)))).length = (trimL la).length := (List.length_set ..).trans l_q
        refine wpL.flat [u1, u3, undef, undef, (Value.slice none 0 0), (Value.slice none 0 0), (Value.bool false), u_r, (sli q 0 ((trimL la).length) ((trimL la).length)), (eB (invB ((trimL lb).getD (((trimL lb).length) - 1) 0))), (eN (rl.length - ((trimL lb).length))), (eB (gm (rl.getD (rl.length - 1) 0) (invB ((trimL lb).getD (((trimL lb).length) - 1) 0)))), (z 12), u2, u3, u3, (eN ((trimL lb).length)), (Value.bool (decide (((trimL lb).length) = 0))), u1, u7, u7, (eN ((trimL la).length)), (sli q 0 ((trimL la).length) ((trimL la).length)), u3, u3, (eN ((trimL lb).length)), (eN (((trimL lb).length) - 1)), u15, (eB ((trimL lb).getD (((trimL lb).length) - 1) 0)), (eB (invB ((trimL lb).getD (((trimL lb).length) - 1) 0))), u_r, (eN rl.length), u3, (eN ((trimL lb).length)), (Value.bool (decide (((trimL lb).length) ≤ rl.length))), u_r, (eN rl.length), u3, (eN ((trimL lb).length)), (eN (rl.length - ((trimL lb).length))), u_r, u_r, (eN rl.length), (eN (rl.length - 1)), u21, (eB (rl.getD (rl.length - 1) 0)), (eB (invB ((trimL lb).getD (((trimL lb).length) - 1) 0))), (eB (gm (rl.getD (rl.length - 1) 0) (invB ((trimL lb).getD (((trimL lb).length) - 1) 0)))), (sli q 0 ((trimL la).length) ((trimL la).length)), (eN (rl.length - ((trimL lb).length))), (eB (gm (rl.getD (rl.length - 1) 0) (invB ((trimL lb).getD (((trimL lb).length) - 1) 0)))), (ptr q (rl.length - ((trimL lb).length))), (z 52), (z 53), (z 54), (z 55), (z 56), (z 57), (z 58), (z 59), (z 60), (z 61), (z 62), (z 63), (z 64), (z 65), (z 66), (z 67), (z 68), (z 69), (z 70), (z 71), (z 72), (z 73), (z 74), (z 75), (z 76), (z 77), undef, undef, undef] (by kernel_rfl) ?_
        refine wpL.done ?_
        have hn : rl.length - (trimL lb).length < ql.length := by have := l_q; rw [List.length_set] at this; omega
        refine then_n ?_
        refine wpIn_seq ?_
        refine wpIn_seq ?_
        refine plain ?_
        refine wpL.is (v := (eN 0)) rfl (d_assign (v := (eN 0)) rfl) ?_
        refine wpL.flat [u1, u3, undef, undef, (Value.slice none 0 0), (Value.slice none 0 0), (Value.bool false), u_r, (sli q 0 ((trimL la).length) ((trimL la).length)), (eB (invB ((trimL lb).getD (((trimL lb).length) - 1) 0))), (eN (rl.length - ((trimL lb).length))), (eB (gm (rl.getD (rl.length - 1) 0) (invB ((trimL lb).getD (((trimL lb).length) - 1) 0)))), (eN 0), u2, u3, u3, (eN ((trimL lb).length)), (Value.bool (decide (((trimL lb).length) = 0))), u1, u7, u7, (eN ((trimL la).length)), (sli q 0 ((trimL la).length) ((trimL la).length)), u3, u3, (eN ((trimL lb).length)), (eN (((trimL lb).length) - 1)), u15, (eB ((trimL lb).getD (((trimL lb).length) - 1) 0)), (eB (invB ((trimL lb).getD (((trimL lb).length) - 1) 0))), u_r, (eN rl.length), u3, (eN ((trimL lb).length)), (Value.bool (decide (((trimL lb).length) ≤ rl.length))), u_r, (eN rl.length), u3, (eN ((trimL lb).length)), (eN (rl.length - ((trimL lb).length))), u_r, u_r, (eN rl.length), (eN (rl.length - 1)), u21, (eB (rl.getD (rl.length - 1) 0)), (eB (invB ((trimL lb).getD (((trimL lb).length) - 1) 0))), (eB (gm (rl.getD (rl.length - 1) 0) (invB ((trimL lb).getD (((trimL lb).length) - 1) 0)))), (sli q 0 ((trimL la).length) ((trimL la).length)), (eN (rl.length - ((trimL lb).length))), (eB (gm (rl.getD (rl.length - 1) 0) (invB ((trimL lb).getD (((trimL lb).length) - 1) 0)))), (ptr q (rl.length - ((trimL lb).length))), (z 52), (z 53), (z 54), (z 55), (z 56), (z 57), (z 58), (z 59), (z 60), (z 61), (z 62), (z 63), (z 64), (z 65), (z 66), (z 67), (z 68), (z 69), (z 70), (z 71), (z 72), (z 73), (z 74), (z 75), (z 76), (z 77), undef, undef, undef] (by kernel_rfl) ?_
        refine wpL.done ?_
        refine then_n ?_
        refine wpIn_block ?_
        refine loop2 (fun (k : (Nat)) => fun (z : Nat → Value) => ([u1, u3, undef, undef, (Value.slice none 0 0), (Value.slice none 0 0), (Value.bool false), u_r, (sli q 0 ((trimL la).length) ((trimL la).length)), (eB (invB ((trimL lb).getD (((trimL lb).length) - 1) 0))), (eN (rl.length - ((trimL lb).length))), (eB (gm (rl.getD (rl.length - 1) 0) (invB ((trimL lb).getD (((trimL lb).length) - 1) 0)))), (eN k), u2, u3, u3, (eN ((trimL lb).length)), (Value.bool (decide (((trimL lb).length) = 0))), u1, u7, u7, (eN ((trimL la).length)), (sli q 0 ((trimL la).length) ((trimL la).length)), u3, u3, (eN ((trimL lb).length)), (eN (((trimL lb).length) - 1)), u15, (eB ((trimL lb).getD (((trimL lb).length) - 1) 0)), (eB (invB ((trimL lb).getD (((trimL lb).length) - 1) 0))), u_r, (eN rl.length), u3, (eN ((trimL lb).length)), (Value.bool (decide (((trimL lb).length) ≤ rl.length))), u_r, (eN rl.length), u3, (eN ((trimL lb).length)), (eN (rl.length - ((trimL lb).length))), u_r, u_r, (eN rl.length), (eN (rl.length - 1)), u21, (eB (rl.getD (rl.length - 1) 0)), (eB (invB ((trimL lb).getD (((trimL lb).length) - 1) 0))), (eB (gm (rl.getD (rl.length - 1) 0) (invB ((trimL lb).getD (((trimL lb).length) - 1) 0)))), (sli q 0 ((trimL la).length) ((trimL la).length)), (eN (rl.length - ((trimL lb).length))), (eB (gm (rl.getD (rl.length - 1) 0) (invB ((trimL lb).getD (((trimL lb).length) - 1) 0)))), (ptr q (rl.length - ((trimL lb).length))), (z 52), (z 53), (z 54), (z 55), (z 56), (z 57), (z 58), (z 59), (z 60), (z 61), (z 62), (z 63), (z 64), (z 65), (z 66), (z 67), (z 68), (z 69), (z 70), (z 71), (z 72), (z 73), (z 74), (z 75), (z 76), (z 77), undef, undef, undef] : List Value)) (fun (k : (Nat)) => fun (w_ : World) => (k ≤ (trimL lb).length) ∧ Only (Or1 q (Orq bo_r No)) w25 w_ ∧ Arr 5 q ((ql.set (rl.length - ((trimL lb).length)) (gm (rl.getD (rl.length - 1) 0) (invB ((trimL lb).getD (((trimL lb).length) - 1) 0)))).map eB) w_ ∧ Ow 5 1 bo_r u_r (subl rl (trimL lb) (gm (rl.getD (rl.length - 1) 0) (invB ((trimL lb).getD ((trimL lb).length - 1) 0))) (rl.length - (trimL lb).length) k).length ((subl rl (trimL lb) (gm (rl.getD (rl.length - 1) 0) (invB ((trimL lb).getD ((trimL lb).length - 1) 0))) (rl.length - (trimL lb).length) k).map eB) w_) (fun (k : (Nat)) => (trimL lb).length - k) 0 rfl ?_ ?_
        · refine ⟨?_, ?_, ?_, ?_⟩
          · (try dsimp only)
            all_goals (exact Nat.zero_le _)
          · (try dsimp only)
            all_goals (exact Only.refl _ _)
          · (try dsimp only)
            all_goals (exact a26)
          · (try dsimp only)
            all_goals (rw [subl_zero]; exact f8)
        · rintro k z w29 ⟨hk, o28, a26, f8⟩
          (try dsimp only)
          replace h1 := h1.step o28 (or1_mono (orq_mono no_any))
          replace h2 := h2.step o28 (or1_mono (orq_mono no_any))
          replace f4 := f4.step o28 (or1_mono (orq_mono no_any))
          replace f16 := f16.step o28 (or1_mono (orq_mono no_any))
          replace oW := oW.tail o28 (tl_new g_oW_q (tl_q q_oW_r (fun _ e => by cases e) tl_no))
          replace o19 := o19.tail o28 (tl_in in1 (tl_q q_o19_r (fun k e => (.inr (.inl e))) tl_no))
          have q_o28_r : Fr bo_r bo_r w25.heap.size := Fr.same
          refine wpIn_seq ?_
          refine wpIn_seq ?_
          refine plain ?_
          refine wpL.is (v := (eN k)) rfl (d_move (v := (eN k)) rfl) ?_
          refine wpL.is (v := u3) rfl (d_move (v := u3) rfl) ?_
          refine wpL.is (v := (eN ((trimL lb).length))) rfl (d_lenS rfl Try.underlying23 rfl f4) ?_
          refine wpL.flat [u1, u3, undef, undef, (Value.slice none 0 0), (Value.slice none 0 0), (Value.bool false), u_r, (sli q 0 ((trimL la).length) ((trimL la).length)), (eB (invB ((trimL lb).getD (((trimL lb).length) - 1) 0))), (eN (rl.length - ((trimL lb).length))), (eB (gm (rl.getD (rl.length - 1) 0) (invB ((trimL lb).getD (((trimL lb).length) - 1) 0)))), (eN k), u2, u3, u3, (eN ((trimL lb).length)), (Value.bool (decide (((trimL lb).length) = 0))), u1, u7, u7, (eN ((trimL la).length)), (sli q 0 ((trimL la).length) ((trimL la).length)), u3, u3, (eN ((trimL lb).length)), (eN (((trimL lb).length) - 1)), u15, (eB ((trimL lb).getD (((trimL lb).length) - 1) 0)), (eB (invB ((trimL lb).getD (((trimL lb).length) - 1) 0))), u_r, (eN rl.length), u3, (eN ((trimL lb).length)), (Value.bool (decide (((trimL lb).length) ≤ rl.length))), u_r, (eN rl.length), u3, (eN ((trimL lb).length)), (eN (rl.length - ((trimL lb).length))), u_r, u_r, (eN rl.length), (eN (rl.length - 1)), u21, (eB (rl.getD (rl.length - 1) 0)), (eB (invB ((trimL lb).getD (((trimL lb).length) - 1) 0))), (eB (gm (rl.getD (rl.length - 1) 0) (invB ((trimL lb).getD (((trimL lb).length) - 1) 0)))), (sli q 0 ((trimL la).length) ((trimL la).length)), (eN (rl.length - ((trimL lb).length))), (eB (gm (rl.getD (rl.length - 1) 0) (invB ((trimL lb).getD (((trimL lb).length) - 1) 0)))), (ptr q (rl.length - ((trimL lb).length))), (eN k), u3, (eN ((trimL lb).length)), (z 55), (z 56), (z 57), (z 58), (z 59), (z 60), (z 61), (z 62), (z 63), (z 64), (z 65), (z 66), (z 67), (z 68), (z 69), (z 70), (z 71), (z 72), (z 73), (z 74), (z 75), (z 76), (z 77), undef, undef, undef] (by kernel_rfl) ?_
          refine wpL.is (v := (Value.bool (decide (k < ((trimL lb).length))))) rfl (n_lss (a := k) (b := ((trimL lb).length)) rfl rfl rfl) ?_
          refine wpL.flat [u1, u3, undef, undef, (Value.slice none 0 0), (Value.slice none 0 0), (Value.bool false), u_r, (sli q 0 ((trimL la).length) ((trimL la).length)), (eB (invB ((trimL lb).getD (((trimL lb).length) - 1) 0))), (eN (rl.length - ((trimL lb).length))), (eB (gm (rl.getD (rl.length - 1) 0) (invB ((trimL lb).getD (((trimL lb).length) - 1) 0)))), (eN k), u2, u3, u3, (eN ((trimL lb).length)), (Value.bool (decide (((trimL lb).length) = 0))), u1, u7, u7, (eN ((trimL la).length)), (sli q 0 ((trimL la).length) ((trimL la).length)), u3, u3, (eN ((trimL lb).length)), (eN (((trimL lb).length) - 1)), u15, (eB ((trimL lb).getD (((trimL lb).length) - 1) 0)), (eB (invB ((trimL lb).getD (((trimL lb).length) - 1) 0))), u_r, (eN rl.length), u3, (eN ((trimL lb).length)), (Value.bool (decide (((trimL lb).length) ≤ rl.length))), u_r, (eN rl.length), u3, (eN ((trimL lb).length)), (eN (rl.length - ((trimL lb).length))), u_r, u_r, (eN rl.length), (eN (rl.length - 1)), u21, (eB (rl.getD (rl.length - 1) 0)), (eB (invB ((trimL lb).getD (((trimL lb).length) - 1) 0))), (eB (gm (rl.getD (rl.length - 1) 0) (invB ((trimL lb).getD (((trimL lb).length) - 1) 0)))), (sli q 0 ((trimL la).length) ((trimL la).length)), (eN (rl.length - ((trimL lb).length))), (eB (gm (rl.getD (rl.length - 1) 0) (invB ((trimL lb).getD (((trimL lb).length) - 1) 0)))), (ptr q (rl.length - ((trimL lb).length))), (eN k), u3, (eN ((trimL lb).length)), (Value.bool (decide (k < ((trimL lb).length)))), (z 56), (z 57), (z 58), (z 59), (z 60), (z 61), (z 62), (z 63), (z 64), (z 65), (z 66), (z 67), (z 68), (z 69), (z 70), (z 71), (z 72), (z 73), (z 74), (z 75), (z 76), (z 77), undef, undef, undef] (by kernel_rfl) ?_
          refine wpL.done ?_
          refine then_n ?_
          refine cond_if rfl (fun c2 => ?_) (fun c2 => ?_)
          · skip
            refine wpIn_skip ?_
            refine then_n ?_
            refine wpIn_seq ?_
            refine wpIn_block ?_
            refine drawn' (O := (Or1 q (Orq bo_r No))) (n := 19) [0, 0, 0, 6, 0, 0, 0, 96, 240, 496, 0, 0, 0, 6144, 14336, 31744, 65520, 131071, 262143] [(0, 58), (1, 59), (2, 60), (3, 61), (4, 62), (5, 63), (6, 64), (7, 65), (8, 66), (9, 67), (10, 68), (11, 69), (12, 70), (13, 71), (14, 72), (15, 73), (16, 74), (17, 75)] [0, 1, 2, 3, 4, 5, 6, 7, 8, 9, 10, 11, 12, 13, 14, 15, 16, 17] [18] (fun i_ => ([RF.is (Or1 q (Orq bo_r No)) u_r, RF.is (Or1 q (Orq bo_r No)) (eN (rl.length - ((trimL lb).length))), RF.is (Or1 q (Orq bo_r No)) (eN k), RF.is (Or1 q (Orq bo_r No)) (eN (rl.length - ((trimL lb).length) + k)), RF.is (Or1 q (Orq bo_r No)) u_r, RF.is (Or1 q (Orq bo_r No)) (eN (rl.length - ((trimL lb).length))), RF.is (Or1 q (Orq bo_r No)) (eN k), RF.is (Or1 q (Orq bo_r No)) (eN (rl.length - ((trimL lb).length) + k)), RF.pr (Or1 q (Orq bo_r No)) (InRow bo_r (rl.length - ((trimL lb).length) + k)), RF.is (Or1 q (Orq bo_r No)) (eB ((subl rl (trimL lb) (gm (rl.getD (rl.length - 1) 0) (invB ((trimL lb).getD ((trimL lb).length - 1) 0))) (rl.length - (trimL lb).length) k).getD (rl.length - ((trimL lb).length) + k) 0)), RF.is (Or1 q (Orq bo_r No)) (eB (gm (rl.getD (rl.length - 1) 0) (invB ((trimL lb).getD (((trimL lb).length) - 1) 0)))), RF.is (Or1 q (Orq bo_r No)) u3, RF.is (Or1 q (Orq bo_r No)) (eN k), RF.ps (Or1 q (Orq bo_r No)) (Or1 q (Orq bo_r (Old W.heap.size))) (At kB ((trimL lb).getD k 0)) (or1_mono (orq_mono no_any)), RF.is (Or1 q (Orq bo_r No)) (eB ((trimL lb).getD k 0)), RF.is (Or1 q (Orq bo_r No)) (eB (gm (gm (rl.getD (rl.length - 1) 0) (invB ((trimL lb).getD (((trimL lb).length) - 1) 0))) ((trimL lb).getD k 0))), RF.is (Or1 q (Orq bo_r No)) (eB (((subl rl (trimL lb) (gm (rl.getD (rl.length - 1) 0) (invB ((trimL lb).getD ((trimL lb).length - 1) 0))) (rl.length - (trimL lb).length) k).getD (rl.length - ((trimL lb).length) + k) 0) ^^^ (gm (gm (rl.getD (rl.length - 1) 0) (invB ((trimL lb).getD (((trimL lb).length) - 1) 0))) ((trimL lb).getD k 0)))), RF.pr (Or1 q (Orq bo_r No)) (InRow bo_r (rl.length - ((trimL lb).length) + k)), RF.any (Or1 q (Orq bo_r No))] : List (RF (Or1 q (Orq bo_r No)))).getD i_ (RF.any (Or1 q (Orq bo_r No)))) (fun k_ w_ => match k_ with | 0 => Arr 5 q ((ql.set (rl.length - ((trimL lb).length)) (gm (rl.getD (rl.length - 1) 0) (invB ((trimL lb).getD (((trimL lb).length) - 1) 0)))).map eB) w_ ∧ Ow 5 1 bo_r u_r (subl rl (trimL lb) (gm (rl.getD (rl.length - 1) 0) (invB ((trimL lb).getD ((trimL lb).length - 1) 0))) (rl.length - (trimL lb).length) k).length ((subl rl (trimL lb) (gm (rl.getD (rl.length - 1) 0) (invB ((trimL lb).getD ((trimL lb).length - 1) 0))) (rl.length - (trimL lb).length) k).map eB) w_ | _ => Arr 5 q ((ql.set (rl.length - ((trimL lb).length)) (gm (rl.getD (rl.length - 1) 0) (invB ((trimL lb).getD (((trimL lb).length) - 1) 0)))).map eB) w_ ∧ Ow 5 1 bo_r u_r ((subl rl (trimL lb) (gm (rl.getD (rl.length - 1) 0) (invB ((trimL lb).getD ((trimL lb).length - 1) 0))) (rl.length - (trimL lb).length) k).set (rl.length - ((trimL lb).length) + k) (((subl rl (trimL lb) (gm (rl.getD (rl.length - 1) 0) (invB ((trimL lb).getD ((trimL lb).length - 1) 0))) (rl.length - (trimL lb).length) k).getD (rl.length - ((trimL lb).length) + k) 0) ^^^ (gm (gm (rl.getD (rl.length - 1) 0) (invB ((trimL lb).getD (((trimL lb).length) - 1) 0))) ((trimL lb).getD k 0)))).length (((subl rl (trimL lb) (gm (rl.getD (rl.length - 1) 0) (invB ((trimL lb).getD ((trimL lb).length - 1) 0))) (rl.length - (trimL lb).length) k).set (rl.length - ((trimL lb).length) + k) (((subl rl (trimL lb) (gm (rl.getD (rl.length - 1) 0) (invB ((trimL lb).getD ((trimL lb).length - 1) 0))) (rl.length - (trimL lb).length) k).getD (rl.length - ((trimL lb).length) + k) 0) ^^^ (gm (gm (rl.getD (rl.length - 1) 0) (invB ((trimL lb).getD (((trimL lb).length) - 1) 0))) ((trimL lb).getD k 0)))).map eB) w_) (fun v30 => [u1, u3, undef, undef, (Value.slice none 0 0), (Value.slice none 0 0), (Value.bool false), u_r, (sli q 0 ((trimL la).length) ((trimL la).length)), (eB (invB ((trimL lb).getD (((trimL lb).length) - 1) 0))), (eN (rl.length - ((trimL lb).length))), (eB (gm (rl.getD (rl.length - 1) 0) (invB ((trimL lb).getD (((trimL lb).length) - 1) 0)))), (eN k), u2, u3, u3, (eN ((trimL lb).length)), (Value.bool (decide (((trimL lb).length) = 0))), u1, u7, u7, (eN ((trimL la).length)), (sli q 0 ((trimL la).length) ((trimL la).length)), u3, u3, (eN ((trimL lb).length)), (eN (((trimL lb).length) - 1)), u15, (eB ((trimL lb).getD (((trimL lb).length) - 1) 0)), (eB (invB ((trimL lb).getD (((trimL lb).length) - 1) 0))), u_r, (eN rl.length), u3, (eN ((trimL lb).length)), (Value.bool (decide (((trimL lb).length) ≤ rl.length))), u_r, (eN rl.length), u3, (eN ((trimL lb).length)), (eN (rl.length - ((trimL lb).length))), u_r, u_r, (eN rl.length), (eN (rl.length - 1)), u21, (eB (rl.getD (rl.length - 1) 0)), (eB (invB ((trimL lb).getD (((trimL lb).length) - 1) 0))), (eB (gm (rl.getD (rl.length - 1) 0) (invB ((trimL lb).getD (((trimL lb).length) - 1) 0)))), (sli q 0 ((trimL la).length) ((trimL la).length)), (eN (rl.length - ((trimL lb).length))), (eB (gm (rl.getD (rl.length - 1) 0) (invB ((trimL lb).getD (((trimL lb).length) - 1) 0)))), (ptr q (rl.length - ((trimL lb).length))), (eN k), u3, (eN ((trimL lb).length)), (Value.bool (decide (k < ((trimL lb).length)))), (z 56), (z 57), (v30 0), (v30 1), (v30 2), (v30 3), (v30 4), (v30 5), (v30 6), (v30 7), (v30 8), (v30 9), (v30 10), (v30 11), (v30 12), (v30 13), (v30 14), (v30 15), (v30 16), (v30 17), (z 76), (z 77), undef, undef, undef]) s_mx (by kernel_rfl) rfl (by decide) (by rfl) (fun v_ => by kernel_rfl) (fun k_ => match k_ with | 0 => fun w_ w2_ h ho => by obtain ⟨r_a26, r_f8⟩ := h; exact ⟨r_a26.step0 ho, r_f8.step0 ho⟩ | (_ + 1) => fun w_ w2_ h ho => by obtain ⟨r_a26, r_f8⟩ := h; exact ⟨r_a26.step0 ho, r_f8.step0 ho⟩) ⟨a26, f8⟩ ?_ ?_ ?_
            · skip
              refine ls_cons ?_ ?_
              · intro v30 lo hi w_ k_ hO hd _ _ hk_ _ hR hold
                obtain rfl : k_ = 0 := Nat.le_zero.1 (hk_ 0 (by decide) (by kernel_rfl))
                obtain ⟨r_a26, r_f8⟩ := hR
                clear hd hold
                refine ⟨_, rfl, gd rfl ?_⟩
                exact Does.is (d_move (v := u_r) rfl)
              refine ls_cons ?_ ?_
              · intro v30 lo hi w_ k_ hO hd _ _ hk_ _ hR hold
                obtain rfl : k_ = 0 := Nat.le_zero.1 (hk_ 0 (by decide) (by kernel_rfl))
                obtain ⟨r_a26, r_f8⟩ := hR
                clear hd hold
                refine ⟨_, rfl, gd rfl ?_⟩
                exact Does.is (d_move (v := (eN (rl.length - ((trimL lb).length)))) rfl)
              refine ls_cons ?_ ?_
              · intro v30 lo hi w_ k_ hO hd _ _ hk_ _ hR hold
                obtain rfl : k_ = 0 := Nat.le_zero.1 (hk_ 0 (by decide) (by kernel_rfl))
                obtain ⟨r_a26, r_f8⟩ := hR
                clear hd hold
                refine ⟨_, rfl, gd rfl ?_⟩
                exact Does.is (d_move (v := (eN k)) rfl)
              refine ls_cons ?_ ?_
              · intro v30 lo hi w_ k_ hO hd _ _ hk_ _ hR hold
                obtain rfl : k_ = 0 := Nat.le_zero.1 (hk_ 0 (by decide) (by kernel_rfl))
                obtain ⟨r_a26, r_f8⟩ := hR
                have e1 : v30 1 = (eN (rl.length - ((trimL lb).length))) := hd 1 (by kernel_rfl)
                have e2 : v30 2 = (eN k) := hd 2 (by kernel_rfl)
                clear hd hold
                refine ⟨_, rfl, gd rfl ?_⟩
                exact Does.is (n_add (a := (rl.length - ((trimL lb).length))) (b := k) e1 e2 (by omega))
              refine ls_cons ?_ ?_
              · intro v30 lo hi w_ k_ hO hd _ _ hk_ _ hR hold
                obtain rfl : k_ = 0 := Nat.le_zero.1 (hk_ 0 (by decide) (by kernel_rfl))
                obtain ⟨r_a26, r_f8⟩ := hR
                clear hd hold
                refine ⟨_, rfl, gd rfl ?_⟩
                exact Does.is (d_move (v := u_r) rfl)
              refine ls_cons ?_ ?_
              · intro v30 lo hi w_ k_ hO hd _ _ hk_ _ hR hold
                obtain rfl : k_ = 0 := Nat.le_zero.1 (hk_ 0 (by decide) (by kernel_rfl))
                obtain ⟨r_a26, r_f8⟩ := hR
                clear hd hold
                refine ⟨_, rfl, gd rfl ?_⟩
                exact Does.is (d_move (v := (eN (rl.length - ((trimL lb).length)))) rfl)
              refine ls_cons ?_ ?_
              · intro v30 lo hi w_ k_ hO hd _ _ hk_ _ hR hold
                obtain rfl : k_ = 0 := Nat.le_zero.1 (hk_ 0 (by decide) (by kernel_rfl))
                obtain ⟨r_a26, r_f8⟩ := hR
                clear hd hold
                refine ⟨_, rfl, gd rfl ?_⟩
                exact Does.is (d_move (v := (eN k)) rfl)
              refine ls_cons ?_ ?_
              · intro v30 lo hi w_ k_ hO hd _ _ hk_ _ hR hold
                obtain rfl : k_ = 0 := Nat.le_zero.1 (hk_ 0 (by decide) (by kernel_rfl))
                obtain ⟨r_a26, r_f8⟩ := hR
                have e5 : v30 5 = (eN (rl.length - ((trimL lb).length))) := hd 5 (by kernel_rfl)
                have e6 : v30 6 = (eN k) := hd 6 (by kernel_rfl)
                clear hd hold
                refine ⟨_, rfl, gd rfl ?_⟩
                exact Does.is (n_add (a := (rl.length - ((trimL lb).length))) (b := k) e5 e6 (by omega))
              refine ls_cons ?_ ?_
              · intro v30 lo hi w_ k_ hO hd _ _ hk_ _ hR hold
                obtain rfl : k_ = 0 := Nat.le_zero.1 (hk_ 0 (by decide) (by kernel_rfl))
                obtain ⟨r_a26, r_f8⟩ := hR
                have e4 : v30 4 = u_r := hd 4 (by kernel_rfl)
                have e7 : v30 7 = (eN (rl.length - ((trimL lb).length) + k)) := hd 7 (by kernel_rfl)
                clear hd hold
                refine ⟨_, rfl, gd rfl ?_⟩
                exact (d_indexOw (i := (rl.length - ((trimL lb).length) + k)) (xs := (subl rl (trimL lb) (gm (rl.getD (rl.length - 1) 0) (invB ((trimL lb).getD ((trimL lb).length - 1) 0))) (rl.length - (trimL lb).length) k)) (enc := eB) Try.underlying23 s_ti5 e4 r_f8 (show _ = Value.int _ ((rl.length - ((trimL lb).length) + k : Nat) : Int) from e7) (by have := subl_length rl (trimL lb) (gm (rl.getD (rl.length - 1) 0) (invB ((trimL lb).getD ((trimL lb).length - 1) 0))) (rl.length - (trimL lb).length) k; have := trimL_len lb; first | omega | (simp; done) | (simp; omega))).mono (fun u w' h => ⟨h.1, h.2 ▸ Only.refl _ _⟩)
              refine ls_cons ?_ ?_
              · intro v30 lo hi w_ k_ hO hd _ _ hk_ _ hR hold
                obtain rfl : k_ = 0 := Nat.le_zero.1 (hk_ 0 (by decide) (by kernel_rfl))
                obtain ⟨r_a26, r_f8⟩ := hR
                have p8 : InRow bo_r (rl.length - ((trimL lb).length) + k) (v30 8) := hd 8 (by kernel_rfl)
                clear hd hold
                refine ⟨_, rfl, gd rfl ?_⟩
                exact Does.is (d_loadOw (i := (rl.length - ((trimL lb).length) + k)) (xs := (subl rl (trimL lb) (gm (rl.getD (rl.length - 1) 0) (invB ((trimL lb).getD ((trimL lb).length - 1) 0))) (rl.length - (trimL lb).length) k)) (enc := eB) (v := ((subl rl (trimL lb) (gm (rl.getD (rl.length - 1) 0) (invB ((trimL lb).getD ((trimL lb).length - 1) 0))) (rl.length - (trimL lb).length) k).getD (rl.length - ((trimL lb).length) + k) 0)) ⟨_, Try.underlying5, rfl⟩ rfl p8 r_f8 (g_at (by have := subl_length rl (trimL lb) (gm (rl.getD (rl.length - 1) 0) (invB ((trimL lb).getD ((trimL lb).length - 1) 0))) (rl.length - (trimL lb).length) k; have := trimL_len lb; first | omega | (simp; done) | (simp; omega))))
              refine ls_cons ?_ ?_
              · intro v30 lo hi w_ k_ hO hd _ _ hk_ _ hR hold
                obtain rfl : k_ = 0 := Nat.le_zero.1 (hk_ 0 (by decide) (by kernel_rfl))
                obtain ⟨r_a26, r_f8⟩ := hR
                clear hd hold
                refine ⟨_, rfl, gd rfl ?_⟩
                exact Does.is (d_move (v := (eB (gm (rl.getD (rl.length - 1) 0) (invB ((trimL lb).getD (((trimL lb).length) - 1) 0))))) rfl)
              refine ls_cons ?_ ?_
              · intro v30 lo hi w_ k_ hO hd _ _ hk_ _ hR hold
                obtain rfl : k_ = 0 := Nat.le_zero.1 (hk_ 0 (by decide) (by kernel_rfl))
                obtain ⟨r_a26, r_f8⟩ := hR
                clear hd hold
                refine ⟨_, rfl, gd rfl ?_⟩
                exact Does.is (d_move (v := u3) rfl)
              refine ls_cons ?_ ?_
              · intro v30 lo hi w_ k_ hO hd _ _ hk_ _ hR hold
                obtain rfl : k_ = 0 := Nat.le_zero.1 (hk_ 0 (by decide) (by kernel_rfl))
                obtain ⟨r_a26, r_f8⟩ := hR
                clear hd hold
                refine ⟨_, rfl, gd rfl ?_⟩
                exact Does.is (d_move (v := (eN k)) rfl)
              refine ls_cons ?_ ?_
              · intro v30 lo hi w_ k_ hO hd _ _ hk_ _ hR hold
                obtain rfl : k_ = 0 := Nat.le_zero.1 (hk_ 0 (by decide) (by kernel_rfl))
                obtain ⟨r_a26, r_f8⟩ := hR
                have e11 : v30 11 = u3 := hd 11 (by kernel_rfl)
                have e12 : v30 12 = (eN k) := hd 12 (by kernel_rfl)
                clear hd hold
                refine ⟨_, rfl, gd rfl ?_⟩
                refine Does.mono (d_indexS (q := kB) (xs := (trimL lb)) (v := ((trimL lb).getD k 0)) Try.underlying23 s_ti5 e11 (f4.step hO (or1_mono (orq_mono no_any))) (show _ = Value.int _ ((k : Nat) : Int) from e12) (by omega) (g_at (by have := trimL_len lb; first | omega | (simp; done) | (simp; omega)))) (fun u w' h => ⟨h.2 ▸ h.1, h.2 ▸ Only.refl _ _⟩)
              refine ls_cons ?_ ?_
              · intro v30 lo hi w_ k_ hO hd _ _ hk_ _ hR hold
                obtain rfl : k_ = 0 := Nat.le_zero.1 (hk_ 0 (by decide) (by kernel_rfl))
                obtain ⟨r_a26, r_f8⟩ := hR
                have d13 : Ps (Or1 q (Orq bo_r (Old W.heap.size))) (At kB ((trimL lb).getD k 0) (v30 13)) w_ := hd 13 (by kernel_rfl)
                clear hd hold
                refine ⟨_, rfl, gd rfl ?_⟩
                exact Does.is (d_loadAt (enc := eB) (v := ((trimL lb).getD k 0)) ⟨_, Try.underlying5, rfl⟩ rfl d13)
              refine ls_cons ?_ ?_
              · intro v30 lo hi w_ k_ hO hd _ _ hk_ _ hR hold
                obtain rfl : k_ = 0 := Nat.le_zero.1 (hk_ 0 (by decide) (by kernel_rfl))
                obtain ⟨r_a26, r_f8⟩ := hR
                have e10 : v30 10 = (eB (gm (rl.getD (rl.length - 1) 0) (invB ((trimL lb).getD (((trimL lb).length) - 1) 0)))) := hd 10 (by kernel_rfl)
                have e14 : v30 14 = (eB ((trimL lb).getD k 0)) := hd 14 (by kernel_rfl)
                clear hd hold
                refine ⟨_, rfl, gd rfl ?_⟩
                exact d_call (xl := [.tmp 68, .tmp 72]) (al := [(eB (gm (rl.getD (rl.length - 1) 0) (invB ((trimL lb).getD (((trimL lb).length) - 1) 0)))), (eB ((trimL lb).getD k 0))]) Try.func20 (by kernel_rfl) rfl (show ([(v30 10), (v30 14)] : List Value) = [(eB (gm (rl.getD (rl.length - 1) 0) (invB ((trimL lb).getD (((trimL lb).length) - 1) 0)))), (eB ((trimL lb).getD k 0))] from by rw [e10, e14]) rfl (ref2Mul_ok (gm (rl.getD (rl.length - 1) 0) (invB ((trimL lb).getD (((trimL lb).length) - 1) 0))) ((trimL lb).getD k 0) _)
              refine ls_cons ?_ ?_
              · intro v30 lo hi w_ k_ hO hd _ _ hk_ _ hR hold
                obtain rfl : k_ = 0 := Nat.le_zero.1 (hk_ 0 (by decide) (by kernel_rfl))
                obtain ⟨r_a26, r_f8⟩ := hR
                have e15 : v30 15 = (eB (gm (gm (rl.getD (rl.length - 1) 0) (invB ((trimL lb).getD (((trimL lb).length) - 1) 0))) ((trimL lb).getD k 0))) := hd 15 (by kernel_rfl)
                have e9 : v30 9 = (eB ((subl rl (trimL lb) (gm (rl.getD (rl.length - 1) 0) (invB ((trimL lb).getD ((trimL lb).length - 1) 0))) (rl.length - (trimL lb).length) k).getD (rl.length - ((trimL lb).length) + k) 0)) := hd 9 (by kernel_rfl)
                clear hd hold
                refine ⟨_, rfl, gd rfl ?_⟩
                exact Does.is (b_xor (c := ((subl rl (trimL lb) (gm (rl.getD (rl.length - 1) 0) (invB ((trimL lb).getD ((trimL lb).length - 1) 0))) (rl.length - (trimL lb).length) k).getD (rl.length - ((trimL lb).length) + k) 0)) (e := (gm (gm (rl.getD (rl.length - 1) 0) (invB ((trimL lb).getD (((trimL lb).length) - 1) 0))) ((trimL lb).getD k 0))) e9 e15)
              refine ls_cons ?_ ?_
              · intro v30 lo hi w_ k_ hO hd _ _ hk_ _ hR hold
                obtain rfl : k_ = 0 := Nat.le_zero.1 (hk_ 0 (by decide) (by kernel_rfl))
                obtain ⟨r_a26, r_f8⟩ := hR
                have e0 : v30 0 = u_r := hd 0 (by kernel_rfl)
                have e3 : v30 3 = (eN (rl.length - ((trimL lb).length) + k)) := hd 3 (by kernel_rfl)
                clear hd hold
                refine ⟨_, rfl, gd rfl ?_⟩
                exact (d_indexOw (i := (rl.length - ((trimL lb).length) + k)) (xs := (subl rl (trimL lb) (gm (rl.getD (rl.length - 1) 0) (invB ((trimL lb).getD ((trimL lb).length - 1) 0))) (rl.length - (trimL lb).length) k)) (enc := eB) Try.underlying23 s_ti5 e0 r_f8 (show _ = Value.int _ ((rl.length - ((trimL lb).length) + k : Nat) : Int) from e3) (by have := subl_length rl (trimL lb) (gm (rl.getD (rl.length - 1) 0) (invB ((trimL lb).getD ((trimL lb).length - 1) 0))) (rl.length - (trimL lb).length) k; have := trimL_len lb; first | omega | (simp; done) | (simp; omega))).mono (fun u w' h => ⟨h.1, h.2 ▸ Only.refl _ _⟩)
              exact ls_nil
            · skip
              refine ms_one ?_
              · intro v30 lo hi w_ hO hd _ hR hold
                obtain ⟨r_a26, r_f8⟩ := hR
                have e16 : v30 16 = (eB (((subl rl (trimL lb) (gm (rl.getD (rl.length - 1) 0) (invB ((trimL lb).getD ((trimL lb).length - 1) 0))) (rl.length - (trimL lb).length) k).getD (rl.length - ((trimL lb).length) + k) 0) ^^^ (gm (gm (rl.getD (rl.length - 1) 0) (invB ((trimL lb).getD (((trimL lb).length) - 1) 0))) ((trimL lb).getD k 0)))) := hd 16 (by kernel_rfl)
                have p17 : InRow bo_r (rl.length - ((trimL lb).length) + k) (v30 17) := hd 17 (by kernel_rfl)
                clear hd hold
                refine ⟨_, rfl, gd rfl ?_⟩
                exact (d_storeOw (i := (rl.length - ((trimL lb).length) + k)) (xs := (subl rl (trimL lb) (gm (rl.getD (rl.length - 1) 0) (invB ((trimL lb).getD ((trimL lb).length - 1) 0))) (rl.length - (trimL lb).length) k)) (enc := eB) (v := (((subl rl (trimL lb) (gm (rl.getD (rl.length - 1) 0) (invB ((trimL lb).getD ((trimL lb).length - 1) 0))) (rl.length - (trimL lb).length) k).getD (rl.length - ((trimL lb).length) + k) 0) ^^^ (gm (gm (rl.getD (rl.length - 1) 0) (invB ((trimL lb).getD (((trimL lb).length) - 1) 0))) ((trimL lb).getD k 0)))) s_ti5 rfl p17 e16 rfl r_f8 (by have := subl_length rl (trimL lb) (gm (rl.getD (rl.length - 1) 0) (invB ((trimL lb).getD ((trimL lb).length - 1) 0))) (rl.length - (trimL lb).length) k; have := trimL_len lb; first | omega | (simp; done) | (simp; omega)) rfl).mono (fun u w' h => ⟨trivial, ⟨r_a26.step h.2 (fun e => nq_r_q _ e rfl), h.1⟩, h.2.mono (fun k _ (e : bo_r = some k) => (.inr (.inl e)))⟩)
            intro v30 lo_ hi_ w31 o32 hd iv_ hR
            have e0 : v30 0 = u_r := hd 0 (by decide)
            have e1 : v30 1 = (eN (rl.length - ((trimL lb).length))) := hd 1 (by decide)
            have e2 : v30 2 = (eN k) := hd 2 (by decide)
            have e3 : v30 3 = (eN (rl.length - ((trimL lb).length) + k)) := hd 3 (by decide)
            have e4 : v30 4 = u_r := hd 4 (by decide)
            have e5 : v30 5 = (eN (rl.length - ((trimL lb).length))) := hd 5 (by decide)
            have e6 : v30 6 = (eN k) := hd 6 (by decide)
            have e7 : v30 7 = (eN (rl.length - ((trimL lb).length) + k)) := hd 7 (by decide)
            have e9 : v30 9 = (eB ((subl rl (trimL lb) (gm (rl.getD (rl.length - 1) 0) (invB ((trimL lb).getD ((trimL lb).length - 1) 0))) (rl.length - (trimL lb).length) k).getD (rl.length - ((trimL lb).length) + k) 0)) := hd 9 (by decide)
            have e10 : v30 10 = (eB (gm (rl.getD (rl.length - 1) 0) (invB ((trimL lb).getD (((trimL lb).length) - 1) 0)))) := hd 10 (by decide)
            have e11 : v30 11 = u3 := hd 11 (by decide)
            have e12 : v30 12 = (eN k) := hd 12 (by decide)
            have e14 : v30 14 = (eB ((trimL lb).getD k 0)) := hd 14 (by decide)
            have e15 : v30 15 = (eB (gm (gm (rl.getD (rl.length - 1) 0) (invB ((trimL lb).getD (((trimL lb).length) - 1) 0))) ((trimL lb).getD k 0))) := hd 15 (by decide)
            have e16 : v30 16 = (eB (((subl rl (trimL lb) (gm (rl.getD (rl.length - 1) 0) (invB ((trimL lb).getD ((trimL lb).length - 1) 0))) (rl.length - (trimL lb).length) k).getD (rl.length - ((trimL lb).length) + k) 0) ^^^ (gm (gm (rl.getD (rl.length - 1) 0) (invB ((trimL lb).getD (((trimL lb).length) - 1) 0))) ((trimL lb).getD k 0)))) := hd 16 (by decide)
            have f_v30_13 : Ps (Or1 q (Orq bo_r (Old W.heap.size))) (At kB ((trimL lb).getD k 0) (v30 13)) w31 := hd 13 (by decide)
            have p_v30_8 : InRow bo_r (rl.length - ((trimL lb).length) + k) (v30 8) := hd 8 (by decide)
            have p_v30_17 : InRow bo_r (rl.length - ((trimL lb).length) + k) (v30 17) := hd 17 (by decide)
            clear hd iv_ lo_ hi_
            refine fr_eq (l' := [u1, u3, undef, undef, (Value.slice none 0 0), (Value.slice none 0 0), (Value.bool false), u_r, (sli q 0 ((trimL la).length) ((trimL la).length)), (eB (invB ((trimL lb).getD (((trimL lb).length) - 1) 0))), (eN (rl.length - ((trimL lb).length))), (eB (gm (rl.getD (rl.length - 1) 0) (invB ((trimL lb).getD (((trimL lb).length) - 1) 0)))), (eN k), u2, u3, u3, (eN ((trimL lb).length)), (Value.bool (decide (((trimL lb).length) = 0))), u1, u7, u7, (eN ((trimL la).length)), (sli q 0 ((trimL la).length) ((trimL la).length)), u3, u3, (eN ((trimL lb).length)), (eN (((trimL lb).length) - 1)), u15, (eB ((trimL lb).getD (((trimL lb).length) - 1) 0)), (eB (invB ((trimL lb).getD (((trimL lb).length) - 1) 0))), u_r, (eN rl.length), u3, (eN ((trimL lb).length)), (Value.bool (decide (((trimL lb).length) ≤ rl.length))), u_r, (eN rl.length), u3, (eN ((trimL lb).length)), (eN (rl.length - ((trimL lb).length))), u_r, u_r, (eN rl.length), (eN (rl.length - 1)), u21, (eB (rl.getD (rl.length - 1) 0)), (eB (invB ((trimL lb).getD (((trimL lb).length) - 1) 0))), (eB (gm (rl.getD (rl.length - 1) 0) (invB ((trimL lb).getD (((trimL lb).length) - 1) 0)))), (sli q 0 ((trimL la).length) ((trimL la).length)), (eN (rl.length - ((trimL lb).length))), (eB (gm (rl.getD (rl.length - 1) 0) (invB ((trimL lb).getD (((trimL lb).length) - 1) 0)))), (ptr q (rl.length - ((trimL lb).length))), (eN k), u3, (eN ((trimL lb).length)), (Value.bool (decide (k < ((trimL lb).length)))), (z 56), (z 57), u_r, (eN (rl.length - ((trimL lb).length))), (eN k), (eN (rl.length - ((trimL lb).length) + k)), u_r, (eN (rl.length - ((trimL lb).length))), (eN k), (eN (rl.length - ((trimL lb).length) + k)), (v30 8), (eB ((subl rl (trimL lb) (gm (rl.getD (rl.length - 1) 0) (invB ((trimL lb).getD ((trimL lb).length - 1) 0))) (rl.length - (trimL lb).length) k).getD (rl.length - ((trimL lb).length) + k) 0)), (eB (gm (rl.getD (rl.length - 1) 0) (invB ((trimL lb).getD (((trimL lb).length) - 1) 0)))), u3, (eN k), (v30 13), (eB ((trimL lb).getD k 0)), (eB (gm (gm (rl.getD (rl.length - 1) 0) (invB ((trimL lb).getD (((trimL lb).length) - 1) 0))) ((trimL lb).getD k 0))), (eB (((subl rl (trimL lb) (gm (rl.getD (rl.length - 1) 0) (invB ((trimL lb).getD ((trimL lb).length - 1) 0))) (rl.length - (trimL lb).length) k).getD (rl.length - ((trimL lb).length) + k) 0) ^^^ (gm (gm (rl.getD (rl.length - 1) 0) (invB ((trimL lb).getD (((trimL lb).length) - 1) 0))) ((trimL lb).getD k 0)))), (v30 17), (z 76), (z 77), undef, undef, undef]) (by rw [e0, e1, e2, e3, e4, e5, e6, e7, e9, e10, e11, e12, e14, e15, e16]) ?_
            clear e0 e1 e2 e3 e4 e5 e6 e7 e9 e10 e11 e12 e14 e15 e16
            replace h1 := h1.step o32 (or1_mono (orq_mono no_any))
            replace h2 := h2.step o32 (or1_mono (orq_mono no_any))
            replace f4 := f4.step o32 (or1_mono (orq_mono no_any))
            replace f16 := f16.step o32 (or1_mono (orq_mono no_any))
            obtain ⟨xr_a26, xr_f8⟩ := hR
            replace a26 : Arr 5 q ((ql.set (rl.length - ((trimL lb).length)) (gm (rl.getD (rl.length - 1) 0) (invB ((trimL lb).getD (((trimL lb).length) - 1) 0)))).map eB) w31 := xr_a26
            replace f8 : Ow 5 1 bo_r u_r ((subl rl (trimL lb) (gm (rl.getD (rl.length - 1) 0) (invB ((trimL lb).getD ((trimL lb).length - 1) 0))) (rl.length - (trimL lb).length) k).set (rl.length - ((trimL lb).length) + k) (((subl rl (trimL lb) (gm (rl.getD (rl.length - 1) 0) (invB ((trimL lb).getD ((trimL lb).length - 1) 0))) (rl.length - (trimL lb).length) k).getD (rl.length - ((trimL lb).length) + k) 0) ^^^ (gm (gm (rl.getD (rl.length - 1) 0) (invB ((trimL lb).getD (((trimL lb).length) - 1) 0))) ((trimL lb).getD k 0)))).length (((subl rl (trimL lb) (gm (rl.getD (rl.length - 1) 0) (invB ((trimL lb).getD ((trimL lb).length - 1) 0))) (rl.length - (trimL lb).length) k).set (rl.length - ((trimL lb).length) + k) (((subl rl (trimL lb) (gm (rl.getD (rl.length - 1) 0) (invB ((trimL lb).getD ((trimL lb).length - 1) 0))) (rl.length - (trimL lb).length) k).getD (rl.length - ((trimL lb).length) + k) 0) ^^^ (gm (gm (rl.getD (rl.length - 1) 0) (invB ((trimL lb).getD (((trimL lb).length) - 1) 0))) ((trimL lb).getD k 0)))).map eB) w31 := xr_f8
            clear xr_a26 xr_f8
            replace oW := oW.tail o32 (tl_new g_oW_q (tl_q q_oW_r (fun _ e => by cases e) tl_no))
            replace o19 := o19.tail o32 (tl_in in1 (tl_q q_o19_r (fun k e => (.inr (.inl e))) tl_no))
            replace o28 := o28.tail o32 (tl_in in1 (tl_q q_o28_r (fun k e => (.inr (.inl e))) tl_no))
            refine inb_n (then_n ?_)
            refine plain ?_
            refine wpL.is (v := (eN k)) rfl (d_move (v := (eN k)) rfl) ?_
            refine wpL.is (v := (eN (k + 1))) rfl (n_add (a := k) (b := 1) rfl rfl (by omega)) ?_
            refine wpL.is (v := (eN (k + 1))) rfl (d_assign (v := (eN (k + 1))) rfl) ?_
            refine wpL.flat [u1, u3, undef, undef, (Value.slice none 0 0), (Value.slice none 0 0), (Value.bool false), u_r, (sli q 0 ((trimL la).length) ((trimL la).length)), (eB (invB ((trimL lb).getD (((trimL lb).length) - 1) 0))), (eN (rl.length - ((trimL lb).length))), (eB (gm (rl.getD (rl.length - 1) 0) (invB ((trimL lb).getD (((trimL lb).length) - 1) 0)))), (eN (k + 1)), u2, u3, u3, (eN ((trimL lb).length)), (Value.bool (decide (((trimL lb).length) = 0))), u1, u7, u7, (eN ((trimL la).length)), (sli q 0 ((trimL la).length) ((trimL la).length)), u3, u3, (eN ((trimL lb).length)), (eN (((trimL lb).length) - 1)), u15, (eB ((trimL lb).getD (((trimL lb).length) - 1) 0)), (eB (invB ((trimL lb).getD (((trimL lb).length) - 1) 0))), u_r, (eN rl.length), u3, (eN ((trimL lb).length)), (Value.bool (decide (((trimL lb).length) ≤ rl.length))), u_r, (eN rl.length), u3, (eN ((trimL lb).length)), (eN (rl.length - ((trimL lb).length))), u_r, u_r, (eN rl.length), (eN (rl.length - 1)), u21, (eB (rl.getD (rl.length - 1) 0)), (eB (invB ((trimL lb).getD (((trimL lb).length) - 1) 0))), (eB (gm (rl.getD (rl.length - 1) 0) (invB ((trimL lb).getD (((trimL lb).length) - 1) 0)))), (sli q 0 ((trimL la).length) ((trimL la).length)), (eN (rl.length - ((trimL lb).length))), (eB (gm (rl.getD (rl.length - 1) 0) (invB ((trimL lb).getD (((trimL lb).length) - 1) 0)))), (ptr q (rl.length - ((trimL lb).length))), (eN k), u3, (eN ((trimL lb).length)), (Value.bool (decide (k < ((trimL lb).length)))), (eN k), (eN (k + 1)), u_r, (eN (rl.length - ((trimL lb).length))), (eN k), (eN (rl.length - ((trimL lb).length) + k)), u_r, (eN (rl.length - ((trimL lb).length))), (eN k), (eN (rl.length - ((trimL lb).length) + k)), (v30 8), (eB ((subl rl (trimL lb) (gm (rl.getD (rl.length - 1) 0) (invB ((trimL lb).getD ((trimL lb).length - 1) 0))) (rl.length - (trimL lb).length) k).getD (rl.length - ((trimL lb).length) + k) 0)), (eB (gm (rl.getD (rl.length - 1) 0) (invB ((trimL lb).getD (((trimL lb).length) - 1) 0)))), u3, (eN k), (v30 13), (eB ((trimL lb).getD k 0)), (eB (gm (gm (rl.getD (rl.length - 1) 0) (invB ((trimL lb).getD (((trimL lb).length) - 1) 0))) ((trimL lb).getD k 0))), (eB (((subl rl (trimL lb) (gm (rl.getD (rl.length - 1) 0) (invB ((trimL lb).getD ((trimL lb).length - 1) 0))) (rl.length - (trimL lb).length) k).getD (rl.length - ((trimL lb).length) + k) 0) ^^^ (gm (gm (rl.getD (rl.length - 1) 0) (invB ((trimL lb).getD (((trimL lb).length) - 1) 0))) ((trimL lb).getD k 0)))), (v30 17), (z 76), (z 77), undef, undef, undef] (by kernel_rfl) ?_
            refine wpL.done ?_
            refine then_n ?_
            refine ⟨_, (k + 1), rfl, rfl, ⟨?_, ?_, ?_, ?_⟩, ?_⟩
            · (try dsimp only)
              all_goals (omega)
            · (try dsimp only)
              all_goals (exact o28)
            · (try dsimp only)
              all_goals (exact a26)
            · (try dsimp only)
              all_goals (rw [← subl_step (by omega)]; exact f8)
            · (try dsimp only)
              all_goals (omega)
          · skip
            refine wpIn_exit ?_
            refine then_x (then_x (inb_e ?_))
            refine then_n ?_
            refine plain ?_
            refine wpL.is (v := u_r) rfl (d_move (v := u_r) rfl) ?_
            refine wpL.op rfl (d_call (xl := [.tmp 76]) (al := [u_r]) Try.func25 (by kernel_rfl) rfl rfl rfl (ref3Trim_ok (subl rl (trimL lb) (gm (rl.getD (rl.length - 1) 0) (invB ((trimL lb).getD ((trimL lb).length - 1) 0))) (rl.length - (trimL lb).length) k) u_r _ (Ps.no (f8.seq (X := No) (fun _ _ h => h))) (by have := subl_length rl (trimL lb) (gm (rl.getD (rl.length - 1) 0) (invB ((trimL lb).getD ((trimL lb).length - 1) 0))) (rl.length - (trimL lb).length) k; have := trimL_len lb; first | omega | (simp; done) | (simp; omega)))) ?_
            rintro u35 w33 f36
            obtain ⟨bo37, f36, g38, o34⟩ := f36
            have nq_r2_q := nq_new g38 a26.lt
            have nqq_r_r2 := nqq_new g38 f8.lts
            have q_oW_r2 := qnew g38 oW.size
            have q_o19_r2 := qnew g38 o19.size
            have q_o28_r2 := qnew g38 o28.size
            replace h1 := h1.newq o34 g38
            replace h2 := h2.newq o34 g38
            replace f4 := f4.newq o34 g38
            replace f16 := f16.newq o34 g38
            replace a26 := a26.step0 o34
            replace f8 := f8.step0 o34
            replace oW := oW.tail0 o34
            replace o19 := o19.tail0 o34
            replace o28 := o28.tail0 o34
            refine wpL.is (v := u35) rfl (d_assign (v := u35) rfl) ?_
            refine wpL.flat [u1, u3, undef, undef, (Value.slice none 0 0), (Value.slice none 0 0), (Value.bool false), u35, (sli q 0 ((trimL la).length) ((trimL la).length)), (eB (invB ((trimL lb).getD (((trimL lb).length) - 1) 0))), (eN (rl.length - ((trimL lb).length))), (eB (gm (rl.getD (rl.length - 1) 0) (invB ((trimL lb).getD (((trimL lb).length) - 1) 0)))), (eN k), u2, u3, u3, (eN ((trimL lb).length)), (Value.bool (decide (((trimL lb).length) = 0))), u1, u7, u7, (eN ((trimL la).length)), (sli q 0 ((trimL la).length) ((trimL la).length)), u3, u3, (eN ((trimL lb).length)), (eN (((trimL lb).length) - 1)), u15, (eB ((trimL lb).getD (((trimL lb).length) - 1) 0)), (eB (invB ((trimL lb).getD (((trimL lb).length) - 1) 0))), u_r, (eN rl.length), u3, (eN ((trimL lb).length)), (Value.bool (decide (((trimL lb).length) ≤ rl.length))), u_r, (eN rl.length), u3, (eN ((trimL lb).length)), (eN (rl.length - ((trimL lb).length))), u_r, u_r, (eN rl.length), (eN (rl.length - 1)), u21, (eB (rl.getD (rl.length - 1) 0)), (eB (invB ((trimL lb).getD (((trimL lb).length) - 1) 0))), (eB (gm (rl.getD (rl.length - 1) 0) (invB ((trimL lb).getD (((trimL lb).length) - 1) 0)))), (sli q 0 ((trimL la).length) ((trimL la).length)), (eN (rl.length - ((trimL lb).length))), (eB (gm (rl.getD (rl.length - 1) 0) (invB ((trimL lb).getD (((trimL lb).length) - 1) 0)))), (ptr q (rl.length - ((trimL lb).length))), (eN k), u3, (eN ((trimL lb).length)), (Value.bool (decide (k < ((trimL lb).length)))), (z 56), (z 57), (z 58), (z 59), (z 60), (z 61), (z 62), (z 63), (z 64), (z 65), (z 66), (z 67), (z 68), (z 69), (z 70), (z 71), (z 72), (z 73), (z 74), (z 75), u_r, u35, undef, undef, undef] (by kernel_rfl) ?_
            refine wpL.done ?_
            refine inb_n (then_n ?_)
            obtain rfl : k = (trimL lb).length := by omega
            refine ⟨_, ⟨ql.set (rl.length - (trimL lb).length) (gm (rl.getD (rl.length - 1) 0) (invB ((trimL lb).getD ((trimL lb).length - 1) 0))), trimL (subl rl (trimL lb) (gm (rl.getD (rl.length - 1) 0) (invB ((trimL lb).getD ((trimL lb).length - 1) 0))) (rl.length - (trimL lb).length) (trimL lb).length), bo37, u35⟩, rfl, rfl, ⟨?_, ?_, ?_, ?_, ?_, ?_, ?_⟩, ?_⟩
            · (try dsimp only)
              all_goals (have := trimL_len (subl rl (trimL lb) (gm (rl.getD (rl.length - 1) 0) (invB ((trimL lb).getD ((trimL lb).length - 1) 0))) (rl.length - (trimL lb).length) (trimL lb).length); have := subl_length rl (trimL lb) (gm (rl.getD (rl.length - 1) 0) (invB ((trimL lb).getD ((trimL lb).length - 1) 0))) (rl.length - (trimL lb).length) (trimL lb).length; omega)
            · (try dsimp only)
              all_goals (exact (Div3.step hI hn (by omega) hb htop rfl).1)
            · (try dsimp only)
              all_goals (exact o19)
            · (try dsimp only)
              all_goals (simpa using l_q)
            · (try dsimp only)
              all_goals (exact a26)
            · (try dsimp only)
              all_goals (exact f36)
            · (try dsimp only)
              all_goals (exact fun c hc => (q_o19_r2 c hc).elim (fun h => by cases h) .inr)
            · (try dsimp only)
              all_goals (exact (Div3.step hI hn (by omega) hb htop rfl).2)
      · skip
        refine wpIn_exit ?_
        refine then_x (then_x (inb_e ?_))
        refine then_n ?_
        refine wpIn_seq ?_
        refine plain ?_
        refine wpL.is (v := (sli q 0 ((trimL la).length) ((trimL la).length))) rfl (d_move (v := (sli q 0 ((trimL la).length) ((trimL la).length))) rfl) ?_
        refine wpL.op rfl (d_call (xl := [.tmp 78]) (al := [(sli q 0 ((trimL la).length) ((trimL la).length))]) Try.func25 (by kernel_rfl) rfl rfl rfl (ref3Trim_ok ql (sli q 0 ((trimL la).length) ((trimL la).length)) _ (Ps.no (arr_seq a13 l_q (Nat.le_refl _))) (by first | omega | (simp; done) | (simp; omega)))) ?_
        rintro u41 w39 f42
        replace f42 := f42.ps
        obtain ⟨f42, o40⟩ := f42
        replace f42 := f42.less (Y := (Or1 q (Orq bo_r (Old W.heap.size)))) (or1_old a13.lt (orq_old (fun x hx => by subst hx; exact f8.lt) (old_old oW.size)))
        replace h1 := h1.step0 o40
        replace h2 := h2.step0 o40
        replace f4 := f4.step0 o40
        replace f16 := f16.step0 o40
        replace a13 := a13.step0 o40
        replace f8 := f8.step0 o40
        replace oW := oW.tail0 o40
        replace o19 := o19.tail0 o40
        refine wpL.is (v := u_r) rfl (d_move (v := u_r) rfl) ?_
        refine wpL.flat [u1, u3, undef, undef, (Value.slice none 0 0), (Value.slice none 0 0), (Value.bool false), u_r, (sli q 0 ((trimL la).length) ((trimL la).length)), (eB (invB ((trimL lb).getD (((trimL lb).length) - 1) 0))), (z 10), (z 11), (z 12), u2, u3, u3, (eN ((trimL lb).length)), (Value.bool (decide (((trimL lb).length) = 0))), u1, u7, u7, (eN ((trimL la).length)), (sli q 0 ((trimL la).length) ((trimL la).length)), u3, u3, (eN ((trimL lb).length)), (eN (((trimL lb).length) - 1)), u15, (eB ((trimL lb).getD (((trimL lb).length) - 1) 0)), (eB (invB ((trimL lb).getD (((trimL lb).length) - 1) 0))), u_r, (eN rl.length), u3, (eN ((trimL lb).length)), (Value.bool (decide (((trimL lb).length) ≤ rl.length))), (z 35), (z 36), (z 37), (z 38), (z 39), (z 40), (z 41), (z 42), (z 43), (z 44), (z 45), (z 46), (z 47), (z 48), (z 49), (z 50), (z 51), (z 52), (z 53), (z 54), (z 55), (z 56), (z 57), (z 58), (z 59), (z 60), (z 61), (z 62), (z 63), (z 64), (z 65), (z 66), (z 67), (z 68), (z 69), (z 70), (z 71), (z 72), (z 73), (z 74), (z 75), (z 76), (z 77), (sli q 0 ((trimL la).length) ((trimL la).length)), u41, u_r] (by kernel_rfl) ?_
        refine wpL.is (v := u41) rfl (d_assign (v := u41) rfl) ?_
        refine wpL.is (v := u_r) rfl (d_assign (v := u_r) rfl) ?_
        refine wpL.is (v := (Value.bool true)) rfl (d_assign (v := (Value.bool true)) rfl) ?_
        refine wpL.flat [u1, u3, undef, undef, u41, u_r, (Value.bool true), u_r, (sli q 0 ((trimL la).length) ((trimL la).length)), (eB (invB ((trimL lb).getD (((trimL lb).length) - 1) 0))), (z 10), (z 11), (z 12), u2, u3, u3, (eN ((trimL lb).length)), (Value.bool (decide (((trimL lb).length) = 0))), u1, u7, u7, (eN ((trimL la).length)), (sli q 0 ((trimL la).length) ((trimL la).length)), u3, u3, (eN ((trimL lb).length)), (eN (((trimL lb).length) - 1)), u15, (eB ((trimL lb).getD (((trimL lb).length) - 1) 0)), (eB (invB ((trimL lb).getD (((trimL lb).length) - 1) 0))), u_r, (eN rl.length), u3, (eN ((trimL lb).length)), (Value.bool (decide (((trimL lb).length) ≤ rl.length))), (z 35), (z 36), (z 37), (z 38), (z 39), (z 40), (z 41), (z 42), (z 43), (z 44), (z 45), (z 46), (z 47), (z 48), (z 49), (z 50), (z 51), (z 52), (z 53), (z 54), (z 55), (z 56), (z 57), (z 58), (z 59), (z 60), (z 61), (z 62), (z 63), (z 64), (z 65), (z 66), (z 67), (z 68), (z 69), (z 70), (z 71), (z 72), (z 73), (z 74), (z 75), (z 76), (z 77), (sli q 0 ((trimL la).length) ((trimL la).length)), u41, u_r] (by kernel_rfl) ?_
        refine wpL.done ?_
        refine then_n ?_
        refine wpIn_ret ?_
        refine leave0 (v := (Value.tuple #[u41, u_r, (Value.bool true)])) (res3 Try.results22 rfl rfl rfl) ?_
        have hd := div_is (Div3.done hI (by omega))
        exact ⟨_, _, by rw [isP_yes (fun e => c0 (by rw [e]; rfl))], by rw [hd.1]; exact (f42.less (xx_skip (xx_skip xx_id))), by rw [hd.2]; exact (Ow.seq f8 (old_q q_oW_r)), oW⟩

set_option maxRecDepth 20000 in
set_option maxHeartbeats 1000000 in
theorem doubled_ok (n : Nat) (W : World) :
    CW Try.prog 26 #[(eN n)] W (Rt (fun u w => ∃ b, u = .func (.func 32) #[] #[ptr b 0] ∧ W.heap.size ≤ b ∧ Arr 3 b [eN n] w ∧ Only No W w)) := by
  have oW : Only No W W := Only.refl _ _
  refine enter (al := [(eN n)]) (k := 3) (l := [(eN n), undef, undef, undef]) Try.func26 rfl Try.ntmps26 rfl rfl ?_
  refine wpIn_seq ?_
  refine plain ?_
  refine wpL.op rfl (d_box rfl rfl) ?_
  rintro _ w1 ⟨b, rfl, g2, a3, o4⟩
  have g_oW_b : W.heap.size ≤ b := Nat.le_trans oW.size g2
  replace oW := oW.tail0 o4
  refine wpL.is (v := .nilFunc) rfl (d_assign (v := .nilFunc) rfl) ?_
  refine wpL.flat [(eN n), (ptr b 0), .nilFunc, undef] (by kernel_rfl) ?_
  refine wpL.done ?_
  refine then_n ?_
  refine wpIn_seq ?_
  refine plain ?_
  refine wpL.is (v := (Value.func (.func 32) #[] #[(ptr b 0)])) rfl (d_funcL (yl := [.tmp 1]) (ys := [(ptr b 0)]) rfl) ?_
  refine wpL.is (v := (Value.func (.func 32) #[] #[(ptr b 0)])) rfl (d_assign (v := (Value.func (.func 32) #[] #[(ptr b 0)])) rfl) ?_
  refine wpL.flat [(eN n), (ptr b 0), (Value.func (.func 32) #[] #[(ptr b 0)]), (Value.func (.func 32) #[] #[(ptr b 0)])] (by kernel_rfl) ?_
  refine wpL.done ?_
  refine then_n ?_
  refine wpIn_ret ?_
  refine leave0 (v := (Value.func (.func 32) #[] #[(ptr b 0)])) (res1 Try.results26 rfl) ?_
  exact ⟨b, rfl, g_oW_b, a3, oW⟩

set_option maxRecDepth 20000 in
set_option maxHeartbeats 1000000 in
theorem doubled1_ok {O : Nat → Prop} {w0 : World} (n : Nat) (hn : n < 255) (b l : Nat) (J Jx : List Nat → World → Prop) (W : World) (hb : Arr 3 b [eN n] W) (kb : Kp O w0.heap.size b) (hy : ∀ pre x, pre ++ [x] <+: orbit n → ∀ W1, J pre W1 → YieldAt Fence.wide 0 Try.prog l #[eN x] W1 fun e W' => ∃ u, e = .returned u ∧ YR J Jx (Kp O w0.heap.size) (pre ++ [x]) W1 u W') (hJ : J [] W) :
    CW Try.prog 32 #[(Value.func (.yield l) #[] #[]), (ptr b 0)] W (Rt (fun _ W' => J (orbit n) W' ∨ ∃ pre, pre <+: orbit n ∧ Jx pre W')) := by
  refine enter (al := [(Value.func (.yield l) #[] #[]), (ptr b 0)]) (k := 12) (l := [(Value.func (.yield l) #[] #[]), (ptr b 0), undef, undef, undef, undef, undef, undef, undef, undef, undef, undef, undef, undef]) Try.func32 rfl Try.ntmps32 rfl rfl ?_
  refine wpIn_seq ?_
  refine plain ?_
  refine wpL.is (v := (eN n)) rfl (d_load (v := (eN n)) ⟨_, Try.underlying3, rfl⟩ rfl hb rfl) ?_
  refine wpL.is (v := (eN n)) rfl (d_assign (v := (eN n)) rfl) ?_
  refine wpL.flat [(Value.func (.yield l) #[] #[]), (ptr b 0), undef, (eN n), (eN n), undef, undef, undef, undef, undef, undef, undef, undef, undef] (by kernel_rfl) ?_
  refine wpL.done ?_
  refine fr_eq (l' := [(Value.func (.yield l) #[] #[]), (ptr b 0), undef, (eN (orb n 0)), (eN n), undef, undef, undef, undef, undef, undef, undef, undef, undef]) (show ([(Value.func (.yield l) #[] #[]), (ptr b 0), undef, (eN n), (eN n), undef, undef, undef, undef, undef, undef, undef, undef, undef] : List Value) = [(Value.func (.yield l) #[] #[]), (ptr b 0), undef, (eN (orb n 0)), (eN n), undef, undef, undef, undef, undef, undef, undef, undef, undef] from reslot [(Value.func (.yield l) #[] #[]), (ptr b 0), undef, (eN n), (eN n), undef, undef, undef, undef, undef, undef, undef, undef, undef] 3 (by rw [orb_zero hn])) ?_
  refine then_n ?_
  refine wpIn_block ?_
  refine loop2 (fun (i : (Nat)) => fun (z : Nat → Value) => ([(Value.func (.yield l) #[] #[]), (ptr b 0), undef, (eN (orb n i)), (eN n), (z 5), (z 6), (z 7), (z 8), (z 9), (z 10), (z 11), (z 12), (z 13)] : List Value)) (fun (i : (Nat)) => fun (w_ : World) => (i < per n) ∧ (J ((orbit n).take i) w_) ∧ Arr 3 b [(eN n)] w_) (fun (i : (Nat)) => 8 - i) 0 rfl ?_ ?_
  · refine ⟨?_, ?_, ?_⟩
    · (try dsimp only)
      all_goals (exact per_pos n)
    · (try dsimp only)
      all_goals (exact hJ)
    · (try dsimp only)
      all_goals (exact hb)
  · rintro i z w2 ⟨hi, hJ, hb⟩
    (try dsimp only)
    refine wpIn_seq ?_
    refine wpIn_seq ?_
    refine plain ?_
    refine wpL.is (v := (Value.func (.yield l) #[] #[])) rfl (d_move (v := (Value.func (.yield l) #[] #[])) rfl) ?_
    refine wpL.is (v := (eN (orb n i))) rfl (d_move (v := (eN (orb n i))) rfl) ?_
    refine wpL.op rfl (d_yield (xl := [.tmp 6]) (al := [(eN (orb n i))]) rfl rfl (hy _ _ (by rw [orbit_take hi]; exact take_pre _ _) _ hJ)) ?_
    rintro _ w3 ⟨t, rfl, hT, hF⟩
    refine wpL.flat [(Value.func (.yield l) #[] #[]), (ptr b 0), undef, (eN (orb n i)), (eN n), (Value.func (.yield l) #[] #[]), (eN (orb n i)), (Value.bool t), (z 8), (z 9), (z 10), (z 11), (z 12), (z 13)] (by kernel_rfl) ?_
    refine wpL.done ?_
    refine then_n ?_
    refine cond_b rfl (fun c0 => ?_) (fun c0 => ?_)
    · skip
      obtain ⟨hJ, oY⟩ := hT c0
      rw [orbit_take hi] at hJ
      replace hb := hb.step oY (fun h => h kb)
      refine wpIn_skip ?_
      refine then_n ?_
      refine wpIn_block ?_
      refine wpIn_seq ?_
      refine plain ?_
      refine wpL.is (v := (eN (orb n i))) rfl (d_move (v := (eN (orb n i))) rfl) ?_
      refine wpL.is (v := (eN (2 * (orb n i)))) rfl (n_mul (a := 2) (b := (orb n i)) rfl rfl (by have := orb_lt n i; omega)) ?_
      refine wpL.is (v := (eN ((2 * (orb n i)) % 255))) rfl (n_rem (a := (2 * (orb n i))) (b := 255) rfl rfl (by decide)) ?_
      refine wpL.flat [(Value.func (.yield l) #[] #[]), (ptr b 0), undef, (eN (orb n i)), (eN n), (Value.func (.yield l) #[] #[]), (eN (orb n i)), (Value.bool t), (eN (orb n i)), (eN (2 * (orb n i))), (eN ((2 * (orb n i)) % 255)), (z 11), (z 12), (z 13)] (by kernel_rfl) ?_
      refine wpL.is (v := (eN ((2 * (orb n i)) % 255))) rfl (d_assign (v := (eN ((2 * (orb n i)) % 255))) rfl) ?_
      refine wpL.flat [(Value.func (.yield l) #[] #[]), (ptr b 0), undef, (eN ((2 * (orb n i)) % 255)), (eN n), (Value.func (.yield l) #[] #[]), (eN (orb n i)), (Value.bool t), (eN (orb n i)), (eN (2 * (orb n i))), (eN ((2 * (orb n i)) % 255)), (z 11), (z 12), (z 13)] (by kernel_rfl) ?_
      refine wpL.done ?_
      refine then_n ?_
      refine wpIn_seq ?_
      refine plain ?_
      refine wpL.is (v := (eN ((2 * (orb n i)) % 255))) rfl (d_move (v := (eN ((2 * (orb n i)) % 255))) rfl) ?_
      refine wpL.is (v := (eN n)) rfl (d_load (v := (eN n)) ⟨_, Try.underlying3, rfl⟩ rfl hb rfl) ?_
      refine wpL.is (v := (Value.bool (decide (((2 * (orb n i)) % 255) = n)))) rfl (n_eql (a := ((2 * (orb n i)) % 255)) (b := n) rfl rfl rfl) ?_
      refine wpL.flat [(Value.func (.yield l) #[] #[]), (ptr b 0), undef, (eN ((2 * (orb n i)) % 255)), (eN n), (Value.func (.yield l) #[] #[]), (eN (orb n i)), (Value.bool t), (eN (orb n i)), (eN (2 * (orb n i))), (eN ((2 * (orb n i)) % 255)), (eN ((2 * (orb n i)) % 255)), (eN n), (Value.bool (decide (((2 * (orb n i)) % 255) = n)))] (by kernel_rfl) ?_
      refine wpL.done ?_
      refine then_n ?_
      refine cond_if rfl (fun c1 => ?_) (fun c1 => ?_)
      · skip
        refine wpIn_ret ?_
        refine inb_r (then_r (inb_r ?_))
        refine leave0 (v := (Value.tuple #[])) (res0 Try.results32) ?_
        exact .inl (by have e := (orb_per n hn i (by have := per_le n; omega) hi).1 (by rw [← orb_succ]; exact c1); rw [e, ← orbit_length n, List.take_length] at hJ; exact hJ)
      · skip
        refine wpIn_skip ?_
        refine inb_n (then_n ?_)
        refine ⟨[(Value.func (.yield l) #[] #[]), (ptr b 0), undef, (eN (orb n (i + 1))), (eN n), (Value.func (.yield l) #[] #[]), (eN (orb n i)), (Value.bool t), (eN (orb n i)), (eN (2 * (orb n i))), (eN ((2 * (orb n i)) % 255)), (eN ((2 * (orb n i)) % 255)), (eN n), (Value.bool (decide (((2 * (orb n i)) % 255) = n)))], (i + 1), (congrArg (fun l_ => fr l_ _) (show ([(Value.func (.yield l) #[] #[]), (ptr b 0), undef, (eN ((2 * (orb n i)) % 255)), (eN n), (Value.func (.yield l) #[] #[]), (eN (orb n i)), (Value.bool t), (eN (orb n i)), (eN (2 * (orb n i))), (eN ((2 * (orb n i)) % 255)), (eN ((2 * (orb n i)) % 255)), (eN n), (Value.bool (decide (((2 * (orb n i)) % 255) = n)))] : List Value) = [(Value.func (.yield l) #[] #[]), (ptr b 0), undef, (eN (orb n (i + 1))), (eN n), (Value.func (.yield l) #[] #[]), (eN (orb n i)), (Value.bool t), (eN (orb n i)), (eN (2 * (orb n i))), (eN ((2 * (orb n i)) % 255)), (eN ((2 * (orb n i)) % 255)), (eN n), (Value.bool (decide (((2 * (orb n i)) % 255) = n)))] from reslot [(Value.func (.yield l) #[] #[]), (ptr b 0), undef, (eN ((2 * (orb n i)) % 255)), (eN n), (Value.func (.yield l) #[] #[]), (eN (orb n i)), (Value.bool t), (eN (orb n i)), (eN (2 * (orb n i))), (eN ((2 * (orb n i)) % 255)), (eN ((2 * (orb n i)) % 255)), (eN n), (Value.bool (decide (((2 * (orb n i)) % 255) = n)))] 3 (congrArg eN (orb_succ n i)))), rfl, ⟨?_, ?_, ?_⟩, ?_⟩
        · (try dsimp only)
          all_goals (have := (orb_per n hn i (by have := per_le n; omega) hi).2; have := mt this (by rw [← orb_succ]; exact c1); omega)
        · (try dsimp only)
          all_goals (exact hJ)
        · (try dsimp only)
          all_goals (exact hb)
        · (try dsimp only)
          all_goals (have := per_le n; omega)
    · skip
      refine wpIn_exit ?_
      refine then_x (then_x (inb_e ?_))
      refine to_ret ?_
      refine leave0 (v := (Value.tuple #[])) (res0 Try.results32) ?_
      exact .inr ⟨_, by rw [orbit_take hi]; exact take_pre _ _, hF c0⟩


theorem iter_doubled {O : Nat → Prop} {w0 : World} (n : Nat) (hn : n < 255) (b : Nat) (hb : Arr 3 b [eN n] w0) (nb : ¬ O b) : Iter Try.prog 32 [ptr b 0].toArray (fun x => [eN x].toArray) No (Kp O w0.heap.size) (orbit n) w0 :=
  iter_of (encs := fun x => [eN x]) fun l J Jx W hO SJ SJx hy hJ => doubled1_ok n hn b l J Jx W (hb.step hO (fun h => h ⟨hb.lt, nb⟩)) ⟨hb.lt, nb⟩ hy hJ
set_option maxRecDepth 20000 in
set_option maxHeartbeats 1000000 in
theorem minimal_ok (n : Int) (W : World) :
    CW Try.prog 11 #[(eI n)] W (Rt (RPs (Seq kB (minP n)) W)) := by
  have oW : Only No W W := Only.refl _ _
  refine enter (al := [(eI n)]) (k := 17) (l := [(eI n), undef, undef, undef, undef, undef, undef, undef, undef, undef, undef, undef, undef, undef, undef, undef, undef, undef]) Try.func11 rfl Try.ntmps11 rfl rfl ?_
  refine wpIn_seq ?_
  refine plain ?_
  refine wpL.is (v := (Value.slice none 0 0)) rfl (d_assign (v := (Value.slice none 0 0)) rfl) ?_
  refine wpL.flat [(eI n), undef, (Value.slice none 0 0), undef, undef, undef, undef, undef, undef, undef, undef, undef, undef, undef, undef, undef, undef, undef] (by kernel_rfl) ?_
  refine wpL.done ?_
  refine then_n ?_
  refine wpIn_seq ?_
  refine plain ?_
  refine wpL.op rfl (d_buildL (cs := [(eB 1)]) Try.underlying23 s_ti5 rfl (Nat.le_of_ble_eq_true rfl) (parts_cons (vs := [(eB 1)]) (cells_of (v := (eB 1)) rfl rfl) parts_nil) rfl) ?_
  rintro _ w1 ⟨o, rfl, g2, a3, o4⟩
  replace a3 : Arr 5 o (([1] : List UInt8).map eB) w1 := a3
  have l_o : ([1] : List UInt8).length = 1 := rfl
  have g_oW_o : W.heap.size ≤ o := Nat.le_trans oW.size g2
  replace oW := oW.tail0 o4
  refine wpL.op rfl (d_alloc s_ti23 rfl) ?_
  rintro _ w5 ⟨c, rfl, g6, a7, o8⟩
  have n_o_c : o ≠ c := a3.ne g6
  have g_oW_c : W.heap.size ≤ c := Nat.le_trans oW.size g6
  replace a3 := a3.step0 o8
  replace oW := oW.tail0 o8
  refine wpL.op rfl (d_store s_ti23 rfl rfl rfl a7 (Nat.le_of_ble_eq_true rfl) rfl) ?_
  rintro _ w9 ⟨a10, o11⟩
  replace a3 := a3.step o11 (fun e => absurd e n_o_c)
  replace oW := oW.tailb o11 g_oW_c
  refine wpL.flat [(eI n), undef, (Value.slice none 0 0), (ptr c 0), undef, (sli o 0 1 1), undef, undef, undef, undef, undef, undef, undef, undef, undef, undef, undef, undef] (by kernel_rfl) ?_
  refine wpL.done ?_
  have f12 : Ps (Or1 c (Old W.heap.size)) (Seq kB ([1] : List UInt8) (sli o 0 1 1)) w9 := arr_keep a3 l_o (Nat.le_refl _) (nx_or1 (Ne.symm n_o_c) (old_ne g_oW_o))
  refine then_n ?_
  refine wpIn_seq ?_
  refine wpIn_seq ?_
  refine plain ?_
  refine wpL.is (v := (eI n)) rfl (d_move (v := (eI n)) rfl) ?_
  refine wpL.is (v := (eI (Int.tmod n 255))) rfl (d_rem (k := .i64) (m := n) (n := 255) rfl rfl (by decide) rfl) ?_
  refine wpL.is (v := (eI (Int.tmod n 255 + 255))) rfl (d_add (k := .i64) (m := Int.tmod n 255) (n := 255) rfl rfl (r := Int.tmod n 255 + 255) (IntWalk.i64_in _ (by have := tm255 n; omega))) ?_
  refine wpL.flat [(eI n), undef, (Value.slice none 0 0), (ptr c 0), undef, (sli o 0 1 1), (eI n), (eI (Int.tmod n 255)), (eI (Int.tmod n 255 + 255)), undef, undef, undef, undef, undef, undef, undef, undef, undef] (by kernel_rfl) ?_
  refine wpL.is (v := (eN ((n % 255).toNat))) rfl (d_rem (k := .i64) (m := Int.tmod n 255 + 255) (n := 255) rfl rfl (by decide) (r := (((n % 255).toNat : Nat) : Int)) (pm255 n)) ?_
  refine wpL.op rfl (d_call (xl := [.tmp 9]) (al := [(eN ((n % 255).toNat))]) Try.func26 (by kernel_rfl) rfl rfl rfl (doubled_ok ((n % 255).toNat) _)) ?_
  rintro _ w13 ⟨b15, rfl, g16, a17, o14⟩
  have n_c_b15 : c ≠ b15 := a10.ne g16
  have g_oW_b15 : W.heap.size ≤ b15 := Nat.le_trans oW.size g16
  replace f12 := f12.new o14 g16
  replace a10 := a10.step0 o14
  replace oW := oW.tail0 o14
  refine wpL.flat [(eI n), undef, (Value.slice none 0 0), (ptr c 0), undef, (sli o 0 1 1), (eI n), (eI (Int.tmod n 255)), (eI (Int.tmod n 255 + 255)), (eN ((n % 255).toNat)), (Value.func (.func 32) #[] #[(ptr b15 0)]), undef, undef, undef, undef, undef, undef, undef] (by kernel_rfl) ?_
  refine wpL.done ?_
  refine then_n ?_
  refine wpIn_block ?_
  have h_lt_c := a10.lt
  have h_lt_b15 := a17.lt
  have tq_oW := oW.size
  have nO_b15 : ¬ (Or1 c No) b15 := (not_or1 (Ne.symm n_c_b15) not_no)
  obtain ⟨D_, hD_⟩ : ∃ D_, w13.heap.size = D_ := ⟨_, rfl⟩
  obtain ⟨L_, hL_⟩ : ∃ L_, w13.heap.size + 1 = L_ := ⟨_, rfl⟩
  refine range_ (encs := (fun x => [eN x])) (Pv := No) (O := (Or1 c No)) (xs := (orbit ((n % 255).toNat))) (D := D_) (L := L_) (rs := []) hD_ hL_ rfl Try.func32 (by kernel_rfl) rfl (iter_doubled ((n % 255).toNat) (toNat255 n) b15 a17 nO_b15) (fun k t => t.elim) (fun _ => rfl) (lt_or1 h_lt_c lt_no) (fun (pre : List Nat) (w_ : World) => ∃ (u : Value), Only (Or1 c No) w13 w_ ∧ Arr 23 c [u] w_ ∧ Arr 3 b15 [(eN ((n % 255).toNat))] w_ ∧ Ps (Or1 L_ (Or1 D_ (Or1 b15 (Or1 c (Old W.heap.size))))) (Seq kB (minL pre) u) w_) (fun _ _ _ => False) ?_ ?_ ?_ ?_ ?_ ?_
  · rintro pre w_ w2_ ⟨u, o18, a10, a17, f_u⟩ ho_
    exact ⟨u, o18.tail ho_ (stab_tl hD_ hL_ (fun k t => t.elim)), a10.step ho_ (stab_b hD_ hL_ h_lt_c (fun t => t.elim)), a17.step ho_ (stab_b hD_ hL_ h_lt_b15 (fun t => t.elim)), f_u.step ho_ (stab_p (fun k t => t.elim))⟩
  · intro _ _ _ _ h _; exact h.elim
  · refine ⟨(sli o 0 1 1), ?_, ?_, ?_, ?_⟩
    · (try dsimp only)
      all_goals (exact Only.refl _ _)
    · (try dsimp only)
      all_goals (exact a10)
    · (try dsimp only)
      all_goals (exact a17)
    · (try dsimp only)
      all_goals (exact f12.less (xx_new (by omega) (xx_new (Nat.le_of_eq hD_) xx_id)))
  · intro pre x w1_ hpx_ hI_ hL1_
    obtain ⟨u, o18, a10, a17, f_u⟩ := hI_
    replace f12 := Ps.re (X' := (Or1 L_ (Or1 D_ (Or1 b15 (Or1 c (Old W.heap.size)))))) f12 o18 (or1_skip (or1_mono no_any)) (xx_new (by omega) (xx_new (Nat.le_of_eq hD_) (xx_or1 (xx_or1 xx_id))))
    replace oW := oW.tail o18 (tl_new g_oW_c tl_no)
    have n_c_D_ : c ≠ D_ := by omega
    have n_b15_D_ : b15 ≠ D_ := by omega
    have g_oW_D_ : W.heap.size ≤ D_ := by omega
    have g_o18_D_ : w13.heap.size ≤ D_ := by omega
    have n_c_L_ : c ≠ L_ := by omega
    have n_b15_L_ : b15 ≠ L_ := by omega
    have g_oW_L_ : W.heap.size ≤ L_ := by omega
    have g_o18_L_ : w13.heap.size ≤ L_ := by omega
    have n_D__L_ : D_ ≠ L_ := by omega
    have aL_ : Dead L_ w1_ := hL1_
    have aD_ : Dead D_ w1_ := by unfold Dead; omega
    refine wp_eq (l' := [(eI n), undef, (Value.slice none 0 0), (ptr c 0), undef, (sli o 0 1 1), (eI n), (eI (Int.tmod n 255)), (eI (Int.tmod n 255 + 255)), (eN ((n % 255).toNat)), (Value.func (.func 32) #[] #[(ptr b15 0)]), (eN x), undef, undef, undef, undef, undef, undef]) (by kernel_rfl) ?_
    refine plain ?_
    refine wpL.is (v := (eN x)) rfl (d_assign (v := (eN x)) rfl) ?_
    refine wpL.flat [(eI n), undef, (Value.slice none 0 0), (ptr c 0), (eN x), (sli o 0 1 1), (eI n), (eI (Int.tmod n 255)), (eI (Int.tmod n 255 + 255)), (eN ((n % 255).toNat)), (Value.func (.func 32) #[] #[(ptr b15 0)]), (eN x), undef, undef, undef, undef, undef, undef] (by kernel_rfl) ?_
    refine wpL.done ?_
    refine then_n ?_
    refine ⟨Only.refl _ _, fun w2_ oL_ _ => ?_⟩
    replace f12 := f12.stepb oL_ in1
    replace f_u := f_u.stepb oL_ in1
    replace a10 := a10.step oL_ (fun e => absurd e n_c_L_)
    replace a17 := a17.step oL_ (fun e => absurd e n_b15_L_)
    replace aD_ := aD_.step oL_ (fun e => absurd e n_D__L_)
    replace oW := oW.tailb oL_ g_oW_L_
    replace o18 := o18.tailb oL_ g_o18_L_
    replace aL_ : Dead L_ w2_ := Nat.lt_of_lt_of_le aL_ oL_.size
    have oR_ : Only (fun k => (Or1 c No) k ∨ L_ < k) w2_ w2_ := Only.refl _ _
    have hl1_ := hpx_.length_le
    rw [orbit_length, List.length_append, List.length_singleton] at hl1_
    have hl2_ := per_le (n % 255).toNat
    have hl3_ := minL_len pre
    refine wpIn_block ?_
    refine drawn' (O := (Or1 c No)) (n := 6) [0, 0, 2, 6, 15, 31] [(0, 12), (1, 13), (2, 14), (3, 15), (4, 16)] [0, 1, 2, 3, 4] [5] (fun i_ => ([RF.is (Or1 c No) u, RF.is (Or1 c No) (eN x), RF.is (Or1 c No) (eB (exI ((x : Nat) : Int))), RF.ps (Or1 c No) (Or1 L_ (Or1 D_ (Or1 b15 (Or1 c (Old W.heap.size))))) (Seq kB [exI ((x : Nat) : Int), 1]) (or1_skip (or1_skip (or1_skip (or1_mono no_any)))), RF.ps (Or1 c No) (Or1 L_ (Or1 D_ (Or1 b15 (Or1 c (Old W.heap.size))))) (Seq kB (mulP (minL pre) [exI ((x : Nat) : Int), 1])) (or1_skip (or1_skip (or1_skip (or1_mono no_any)))), RF.any (Or1 c No)] : List (RF (Or1 c No))).getD i_ (RF.any (Or1 c No))) (fun k_ w_ => match k_ with | 0 => Arr 23 c [u] w_ ∧ Arr 3 b15 [(eN ((n % 255).toNat))] w_ ∧ Dead D_ w_ ∧ Dead L_ w_ | _ => ∃ (zv19_5 : Value), Arr 23 c [zv19_5] w_ ∧ Arr 3 b15 [(eN ((n % 255).toNat))] w_ ∧ Dead D_ w_ ∧ Dead L_ w_ ∧ Ps (Or1 L_ (Or1 D_ (Or1 b15 (Or1 c (Old W.heap.size))))) (Seq kB (mulP (minL pre) [exI ((x : Nat) : Int), 1]) zv19_5) w_) (fun v19 => [(eI n), undef, (Value.slice none 0 0), (ptr c 0), (eN x), (sli o 0 1 1), (eI n), (eI (Int.tmod n 255)), (eI (Int.tmod n 255 + 255)), (eN ((n % 255).toNat)), (Value.func (.func 32) #[] #[(ptr b15 0)]), (eN x), (v19 0), (v19 1), (v19 2), (v19 3), (v19 4), undef]) s_mx (by kernel_rfl) rfl (by decide) (by rfl) (fun v_ => by kernel_rfl) (fun k_ => match k_ with | 0 => fun w_ w2_ h ho => by obtain ⟨r_a10, r_a17, r_aD_, r_aL_⟩ := h; exact ⟨r_a10.step0 ho, r_a17.step0 ho, r_aD_.step0 ho, r_aL_.step0 ho⟩ | (_ + 1) => fun w_ w2_ h ho => by obtain ⟨zv19_5, r_a10, r_a17, r_aD_, r_aL_, fz_zv19_5⟩ := h; exact ⟨zv19_5, r_a10.step0 ho, r_a17.step0 ho, r_aD_.step0 ho, r_aL_.step0 ho, fz_zv19_5.step0 ho⟩) ⟨a10, a17, aD_, aL_⟩ ?_ ?_ ?_
    · skip
      refine ls_cons ?_ ?_
      · intro v19 lo hi w_ k_ hO hd _ _ hk_ _ hR hold
        obtain rfl : k_ = 0 := Nat.le_zero.1 (hk_ 0 (by decide) (by kernel_rfl))
        obtain ⟨r_a10, r_a17, r_aD_, r_aL_⟩ := hR
        clear hd hold
        refine ⟨_, rfl, gd rfl ?_⟩
        exact Does.is (d_load (v := u) ⟨_, Try.underlying23, rfl⟩ rfl r_a10 rfl)
      refine ls_cons ?_ ?_
      · intro v19 lo hi w_ k_ hO hd _ _ hk_ _ hR hold
        obtain rfl : k_ = 0 := Nat.le_zero.1 (hk_ 0 (by decide) (by kernel_rfl))
        obtain ⟨r_a10, r_a17, r_aD_, r_aL_⟩ := hR
        clear hd hold
        refine ⟨_, rfl, gd rfl ?_⟩
        exact Does.is (d_move (v := (eN x)) rfl)
      refine ls_cons ?_ ?_
      · intro v19 lo hi w_ k_ hO hd _ _ hk_ _ hR hold
        obtain rfl : k_ = 0 := Nat.le_zero.1 (hk_ 0 (by decide) (by kernel_rfl))
        obtain ⟨r_a10, r_a17, r_aD_, r_aL_⟩ := hR
        have e1 : v19 1 = (eN x) := hd 1 (by kernel_rfl)
        clear hd hold
        refine ⟨_, rfl, gd rfl ?_⟩
        exact d_call (xl := [.tmp 13]) (al := [(eN x)]) Try.func27 (by kernel_rfl) rfl (show ([(v19 1)] : List Value) = [(eN x)] from by rw [e1]) rfl (gfExp_ok ((x : Nat) : Int) _)
      refine ls_cons ?_ ?_
      · intro v19 lo hi w_ k_ hO hd _ _ hk_ _ hR hold
        obtain rfl : k_ = 0 := Nat.le_zero.1 (hk_ 0 (by decide) (by kernel_rfl))
        obtain ⟨r_a10, r_a17, r_aD_, r_aL_⟩ := hR
        have e2 : v19 2 = (eB (exI ((x : Nat) : Int))) := hd 2 (by kernel_rfl)
        clear hd hold
        refine ⟨_, rfl, gd rfl ?_⟩
        refine Does.mono (d_buildL (cs := [(eB (exI ((x : Nat) : Int))), (eB 1)]) Try.underlying23 s_ti5 rfl (Nat.le_of_ble_eq_true rfl) (parts_cons (vs := [(eB (exI ((x : Nat) : Int)))]) (cells_of (v := (eB (exI ((x : Nat) : Int)))) e2 rfl) (parts_cons (vs := [(eB 1)]) (cells_of (v := (eB 1)) rfl rfl) parts_nil)) rfl) (fun u w' h => ⟨(made_seq (n := 2) (xs := [exI ((x : Nat) : Int), 1]) (enc := eB) h rfl).1.less (or1_old r_aL_.lt (or1_old r_aD_.lt (or1_old r_a17.lt (or1_old r_a10.lt (old_old (Nat.le_trans oW.size hO.size)))))), (made_seq (n := 2) (xs := [exI ((x : Nat) : Int), 1]) (enc := eB) h rfl).2⟩)
      refine ls_cons ?_ ?_
      · intro v19 lo hi w_ k_ hO hd _ _ hk_ _ hR hold
        obtain rfl : k_ = 0 := Nat.le_zero.1 (hk_ 0 (by decide) (by kernel_rfl))
        obtain ⟨r_a10, r_a17, r_aD_, r_aL_⟩ := hR
        have e0 : v19 0 = u := hd 0 (by kernel_rfl)
        have d3 : Ps (Or1 L_ (Or1 D_ (Or1 b15 (Or1 c (Old W.heap.size))))) (Seq kB [exI ((x : Nat) : Int), 1] (v19 3)) w_ := hd 3 (by kernel_rfl)
        clear hd hold
        refine ⟨_, rfl, gd rfl ?_⟩
        refine Does.mono (R := ROw 5 eB (mulP (minL pre) [exI ((x : Nat) : Int), 1]) w_) ?_ (fun u w' h => ⟨(h.ps).1.less (or1_old r_aL_.lt (or1_old r_aD_.lt (or1_old r_a17.lt (or1_old r_a10.lt (old_old (Nat.le_trans oW.size hO.size)))))), (h.ps).2⟩)
        exact d_call (xl := [.tmp 12, .tmp 15]) (al := [u, (v19 3)]) Try.func16 (by kernel_rfl) rfl (show ([(v19 0), (v19 3)] : List Value) = [u, (v19 3)] from by rw [e0]) rfl (mul_ok (minL pre) [exI ((x : Nat) : Int), 1] u (v19 3) _ (Ps.no (f_u.step hO (or1_skip (or1_skip (or1_skip (or1_mono no_any)))))) (Ps.no d3) (by first | omega | (simp; done) | (simp; omega)) (by first | omega | (simp; done) | (simp; omega)))
      exact ls_nil
    · skip
      refine ms_one ?_
      · intro v19 lo hi w_ hO hd _ hR hold
        obtain ⟨r_a10, r_a17, r_aD_, r_aL_⟩ := hR
        have d4 : Ps (Or1 L_ (Or1 D_ (Or1 b15 (Or1 c (Old W.heap.size))))) (Seq kB (mulP (minL pre) [exI ((x : Nat) : Int), 1]) (v19 4)) w_ := hd 4 (by kernel_rfl)
        clear hd hold
        refine ⟨_, rfl, gd rfl ?_⟩
        refine Does.mono (d_store s_ti23 rfl rfl (Seq.one d4) r_a10 (Nat.le_of_ble_eq_true rfl) rfl) (fun u w' h => ⟨trivial, ⟨(v19 4), h.1, r_a17.step h.2 (fun e => absurd e (Ne.symm n_c_b15)), r_aD_.step h.2 (fun e => absurd e (Ne.symm n_c_D_)), r_aL_.step h.2 (fun e => absurd e (Ne.symm n_c_L_)), d4.step h.2 (fun k e => by have : k = c := e; rw [this]; exact (in2 (in2 (in2 in1))))⟩, h.2.mono (fun k _ e => by have : k = c := e; rw [this]; exact in1)⟩)
    intro v19 lo_ hi_ w20 o21 hd iv_ hR
    have e0 : v19 0 = u := hd 0 (by decide)
    have e1 : v19 1 = (eN x) := hd 1 (by decide)
    have e2 : v19 2 = (eB (exI ((x : Nat) : Int))) := hd 2 (by decide)
    have f_v19_3 : Ps (Or1 L_ (Or1 D_ (Or1 b15 (Or1 c (Old W.heap.size))))) (Seq kB [exI ((x : Nat) : Int), 1] (v19 3)) w20 := hd 3 (by decide)
    have f_v19_4 : Ps (Or1 L_ (Or1 D_ (Or1 b15 (Or1 c (Old W.heap.size))))) (Seq kB (mulP (minL pre) [exI ((x : Nat) : Int), 1]) (v19 4)) w20 := hd 4 (by decide)
    clear hd iv_ lo_ hi_
    refine fr_eq (l' := [(eI n), undef, (Value.slice none 0 0), (ptr c 0), (eN x), (sli o 0 1 1), (eI n), (eI (Int.tmod n 255)), (eI (Int.tmod n 255 + 255)), (eN ((n % 255).toNat)), (Value.func (.func 32) #[] #[(ptr b15 0)]), (eN x), u, (eN x), (eB (exI ((x : Nat) : Int))), (v19 3), (v19 4), undef]) (by rw [e0, e1, e2]) ?_
    clear e0 e1 e2
    replace f12 := f12.step o21 (or1_skip (or1_skip (or1_skip (or1_mono no_any))))
    replace f_u := f_u.step o21 (or1_skip (or1_skip (or1_skip (or1_mono no_any))))
    obtain ⟨zv19_5, xr_a10, xr_a17, xr_aD_, xr_aL_, fz_zv19_5⟩ := hR
    replace a10 : Arr 23 c [zv19_5] w20 := xr_a10
    replace a17 : Arr 3 b15 [(eN ((n % 255).toNat))] w20 := xr_a17
    replace aD_ : Dead D_ w20 := xr_aD_
    replace aL_ : Dead L_ w20 := xr_aL_
    clear xr_a10 xr_a17 xr_aD_ xr_aL_
    replace oW := oW.tail o21 (tl_new g_oW_c tl_no)
    replace o18 := o18.tail o21 (tl_in in1 tl_no)
    replace oR_ := oR_.tail o21 (tl_in (Or.inl in1) tl_no)
    refine inb_n ?_
    refine ⟨oR_, zv19_5, ?_, ?_, ?_, ?_⟩
    · (try dsimp only)
      all_goals (exact o18)
    · (try dsimp only)
      all_goals (exact a10)
    · (try dsimp only)
      all_goals (exact a17)
    · (try dsimp only)
      all_goals (rw [minL_snoc, ← exI_nat]; exact fz_zv19_5.less (xx_or1 (xx_or1 (xx_or1 (xx_or1 xx_id)))))
  · intro w1_ hI_ aD_
    obtain ⟨u, o18, a10, a17, f_u⟩ := hI_
    replace f12 := Ps.re (X' := (Or1 D_ (Or1 b15 (Or1 c (Old W.heap.size))))) f12 o18 (or1_skip (or1_mono no_any)) (xx_new (Nat.le_of_eq hD_) (xx_or1 (xx_or1 xx_id)))
    replace oW := oW.tail o18 (tl_new g_oW_c tl_no)
    have n_c_D_ : c ≠ D_ := by omega
    have n_b15_D_ : b15 ≠ D_ := by omega
    have g_oW_D_ : W.heap.size ≤ D_ := by omega
    have g_o18_D_ : w13.heap.size ≤ D_ := by omega
    replace f_u := f_u.less (Y := (Or1 D_ (Or1 b15 (Or1 c (Old W.heap.size))))) (xx_skip xx_id)
    refine inb_n (then_n ?_)
    refine wpIn_seq ?_
    refine plain ?_
    refine wpL.is (v := u) rfl (d_load (v := u) ⟨_, Try.underlying23, rfl⟩ rfl a10 rfl) ?_
    refine wpL.is (v := u) rfl (d_assign (v := u) rfl) ?_
    refine wpL.flat [(eI n), undef, u, (ptr c 0), undef, (sli o 0 1 1), (eI n), (eI (Int.tmod n 255)), (eI (Int.tmod n 255 + 255)), (eN ((n % 255).toNat)), (Value.func (.func 32) #[] #[(ptr b15 0)]), undef, undef, undef, undef, undef, undef, u] (by kernel_rfl) ?_
    refine wpL.done ?_
    refine then_n ?_
    refine wpIn_ret ?_
    refine leave (marks_ok aD_) (fun w22 o23 => ⟨res1 Try.results11 rfl, ?_⟩)
    replace o23 := only_mem o23
    replace f12 := f12.stepb o23 in1
    replace f_u := f_u.stepb o23 in1
    replace a10 := a10.step o23 (fun e => absurd e n_c_D_)
    replace a17 := a17.step o23 (fun e => absurd e n_b15_D_)
    replace oW := oW.tailb o23 g_oW_D_
    replace o18 := o18.tailb o23 g_o18_D_
    exact ⟨(f_u.less (xx_skip (xx_skip (xx_skip xx_id)))), oW⟩
  · intro _ _ _ _ h _; exact h.elim


theorem tmm (a : Int) {m : Nat} (hm : 0 < m) : (Int.tmod a m < 0 ∧ Int.tmod a m + m = ((a % m).toNat : Int)) ∨ (0 ≤ Int.tmod a m ∧ Int.tmod a m = ((a % m).toNat : Int)) := by
  have h1 := Int.emod_nonneg a (show (m : Int) ≠ 0 by omega)
  have h2 := Int.emod_lt_of_pos a (show (0 : Int) < m by omega)
  have h3 := Int.tmod_eq_emod (a := a) (b := (m : Int))
  have h4 : ((m : Int).natAbs : Int) = m := by omega
  by_cases h : 0 ≤ a ∨ (m : Int) ∣ a
  · rw [if_pos h] at h3; right; omega
  · rw [if_neg h, h4] at h3; left; omega
theorem tmm_neg {a : Int} {m : Nat} (hm : 0 < m) (hm2 : m ≤ 1000000) (h : Int.tmod a m < 0) : IntKind.i64.wrap (Int.tmod a m + m) = ((a % m).toNat : Int) := by
  have h2 := Int.emod_lt_of_pos a (show (0 : Int) < m by omega)
  rcases tmm a hm with h1 | h1
  · rw [IntWalk.i64_in _ (by omega)]; exact h1.2
  · omega
theorem tmm_pos {a : Int} {m : Nat} (hm : 0 < m) (h : ¬ Int.tmod a m < 0) : eI (Int.tmod a m) = eN (a % m).toNat := by
  rcases tmm a hm with h1 | h1
  · omega
  · exact congrArg eI h1.2
set_option maxRecDepth 20000 in
set_option maxHeartbeats 1000000 in
theorem within_ok (a : Int) (m : Nat) (W : World) (hm : 0 < m) (hm2 : m ≤ 1000000) :
    CW Try.prog 13 #[(eI a), (eN m)] W (Rt (RIs (eN (a % (m : Int)).toNat) W)) := by
  have oW : Only No W W := Only.refl _ _
  refine enter (al := [(eI a), (eN m)]) (k := 13) (l := [(eI a), (eN m), undef, undef, undef, undef, undef, undef, undef, undef, undef, undef, undef, undef, undef]) Try.func13 rfl Try.ntmps13 rfl rfl ?_
  refine wpIn_seq ?_
  refine plain ?_
  refine wpL.is (v := (eN 0)) rfl (d_assign (v := (eN 0)) rfl) ?_
  refine wpL.flat [(eI a), (eN m), undef, undef, (eN 0), undef, undef, undef, undef, undef, undef, undef, undef, undef, undef] (by kernel_rfl) ?_
  refine wpL.done ?_
  refine then_n ?_
  refine wpIn_seq ?_
  refine plain ?_
  refine wpL.is (v := (eI a)) rfl (d_move (v := (eI a)) rfl) ?_
  refine wpL.is (v := (eN m)) rfl (d_move (v := (eN m)) rfl) ?_
  refine wpL.is (v := (eI (Int.tmod a (m : Int)))) rfl (d_rem (k := .i64) (m := a) (n := ((m : Nat) : Int)) rfl rfl (by omega) (r := Int.tmod a (m : Int)) rfl) ?_
  refine wpL.flat [(eI a), (eN m), undef, undef, (eN 0), undef, (eI a), (eN m), (eI (Int.tmod a (m : Int))), undef, undef, undef, undef, undef, undef] (by kernel_rfl) ?_
  refine wpL.is (v := (eI (Int.tmod a (m : Int)))) rfl (d_assign (v := (eI (Int.tmod a (m : Int)))) rfl) ?_
  refine wpL.flat [(eI a), (eN m), undef, undef, (eN 0), (eI (Int.tmod a (m : Int))), (eI a), (eN m), (eI (Int.tmod a (m : Int))), undef, undef, undef, undef, undef, undef] (by kernel_rfl) ?_
  refine wpL.done ?_
  refine then_n ?_
  refine wpIn_seq ?_
  refine wpIn_seq ?_
  refine plain ?_
  refine wpL.is (v := (eI (Int.tmod a (m : Int)))) rfl (d_move (v := (eI (Int.tmod a (m : Int)))) rfl) ?_
  refine wpL.is (v := (Value.bool (decide (Int.tmod a (m : Int) < 0)))) rfl (d_lss (k := .i64) (m := Int.tmod a (m : Int)) (n := 0) rfl rfl rfl) ?_
  refine wpL.flat [(eI a), (eN m), undef, undef, (eN 0), (eI (Int.tmod a (m : Int))), (eI a), (eN m), (eI (Int.tmod a (m : Int))), (eI (Int.tmod a (m : Int))), (Value.bool (decide (Int.tmod a (m : Int) < 0))), undef, undef, undef, undef] (by kernel_rfl) ?_
  refine wpL.done ?_
  refine then_n ?_
  refine cond_if rfl (fun k1 => ?_) (fun k1 => ?_)
  · skip
    refine plain ?_
    refine wpL.is (v := (eI (Int.tmod a (m : Int)))) rfl (d_move (v := (eI (Int.tmod a (m : Int)))) rfl) ?_
    refine wpL.is (v := (eN m)) rfl (d_move (v := (eN m)) rfl) ?_
    refine wpL.is (v := (eN ((a % (m : Int)).toNat))) rfl (d_add (k := .i64) (m := Int.tmod a (m : Int)) (n := ((m : Nat) : Int)) rfl rfl (r := (((a % (m : Int)).toNat : Nat) : Int)) (tmm_neg hm hm2 k1)) ?_
    refine wpL.flat [(eI a), (eN m), undef, undef, (eN 0), (eI (Int.tmod a (m : Int))), (eI a), (eN m), (eI (Int.tmod a (m : Int))), (eI (Int.tmod a (m : Int))), (Value.bool (decide (Int.tmod a (m : Int) < 0))), (eI (Int.tmod a (m : Int))), (eN m), (eN ((a % (m : Int)).toNat)), undef] (by kernel_rfl) ?_
    refine wpL.is (v := (eN ((a % (m : Int)).toNat))) rfl (d_assign (v := (eN ((a % (m : Int)).toNat))) rfl) ?_
    refine wpL.flat [(eI a), (eN m), undef, undef, (eN 0), (eN ((a % (m : Int)).toNat)), (eI a), (eN m), (eI (Int.tmod a (m : Int))), (eI (Int.tmod a (m : Int))), (Value.bool (decide (Int.tmod a (m : Int) < 0))), (eI (Int.tmod a (m : Int))), (eN m), (eN ((a % (m : Int)).toNat)), undef] (by kernel_rfl) ?_
    refine wpL.done ?_
    refine then_n ?_
    refine wpIn_seq ?_
    refine plain ?_
    refine wpL.is (v := (eN ((a % (m : Int)).toNat))) rfl (d_move (v := (eN ((a % (m : Int)).toNat))) rfl) ?_
    refine wpL.is (v := (eN ((a % (m : Int)).toNat))) rfl (d_assign (v := (eN ((a % (m : Int)).toNat))) rfl) ?_
    refine wpL.flat [(eI a), (eN m), undef, undef, (eN ((a % (m : Int)).toNat)), (eN ((a % (m : Int)).toNat)), (eI a), (eN m), (eI (Int.tmod a (m : Int))), (eI (Int.tmod a (m : Int))), (Value.bool (decide (Int.tmod a (m : Int) < 0))), (eI (Int.tmod a (m : Int))), (eN m), (eN ((a % (m : Int)).toNat)), (eN ((a % (m : Int)).toNat))] (by kernel_rfl) ?_
    refine wpL.done ?_
    refine then_n ?_
    refine wpIn_ret ?_
    refine leave0 (v := (eN ((a % (m : Int)).toNat))) (res1 Try.results13 rfl) ?_
    exact ⟨rfl, oW⟩
  · skip
    refine wp_eq (l' := [(eI a), (eN m), undef, undef, (eN 0), (eN ((a % (m : Int)).toNat)), (eI a), (eN m), (eN ((a % (m : Int)).toNat)), (eN ((a % (m : Int)).toNat)), (Value.bool (decide (Int.tmod a (m : Int) < 0))), undef, undef, undef, undef]) (Eq.trans (Eq.trans (show ([(eI a), (eN m), undef, undef, (eN 0), (eI (Int.tmod a (m : Int))), (eI a), (eN m), (eI (Int.tmod a (m : Int))), (eI (Int.tmod a (m : Int))), (Value.bool (decide (Int.tmod a (m : Int) < 0))), undef, undef, undef, undef] : List Value) = [(eI a), (eN m), undef, undef, (eN 0), (eN ((a % (m : Int)).toNat)), (eI a), (eN m), (eI (Int.tmod a (m : Int))), (eI (Int.tmod a (m : Int))), (Value.bool (decide (Int.tmod a (m : Int) < 0))), undef, undef, undef, undef] from reslot [(eI a), (eN m), undef, undef, (eN 0), (eI (Int.tmod a (m : Int))), (eI a), (eN m), (eI (Int.tmod a (m : Int))), (eI (Int.tmod a (m : Int))), (Value.bool (decide (Int.tmod a (m : Int) < 0))), undef, undef, undef, undef] 5 (tmm_pos hm k1)) (show ([(eI a), (eN m), undef, undef, (eN 0), (eN ((a % (m : Int)).toNat)), (eI a), (eN m), (eI (Int.tmod a (m : Int))), (eI (Int.tmod a (m : Int))), (Value.bool (decide (Int.tmod a (m : Int) < 0))), undef, undef, undef, undef] : List Value) = [(eI a), (eN m), undef, undef, (eN 0), (eN ((a % (m : Int)).toNat)), (eI a), (eN m), (eN ((a % (m : Int)).toNat)), (eI (Int.tmod a (m : Int))), (Value.bool (decide (Int.tmod a (m : Int) < 0))), undef, undef, undef, undef] from reslot [(eI a), (eN m), undef, undef, (eN 0), (eN ((a % (m : Int)).toNat)), (eI a), (eN m), (eI (Int.tmod a (m : Int))), (eI (Int.tmod a (m : Int))), (Value.bool (decide (Int.tmod a (m : Int) < 0))), undef, undef, undef, undef] 8 (tmm_pos hm k1))) (show ([(eI a), (eN m), undef, undef, (eN 0), (eN ((a % (m : Int)).toNat)), (eI a), (eN m), (eN ((a % (m : Int)).toNat)), (eI (Int.tmod a (m : Int))), (Value.bool (decide (Int.tmod a (m : Int) < 0))), undef, undef, undef, undef] : List Value) = [(eI a), (eN m), undef, undef, (eN 0), (eN ((a % (m : Int)).toNat)), (eI a), (eN m), (eN ((a % (m : Int)).toNat)), (eN ((a % (m : Int)).toNat)), (Value.bool (decide (Int.tmod a (m : Int) < 0))), undef, undef, undef, undef] from reslot [(eI a), (eN m), undef, undef, (eN 0), (eN ((a % (m : Int)).toNat)), (eI a), (eN m), (eN ((a % (m : Int)).toNat)), (eI (Int.tmod a (m : Int))), (Value.bool (decide (Int.tmod a (m : Int) < 0))), undef, undef, undef, undef] 9 (tmm_pos hm k1))) ?_
    refine wpIn_skip ?_
    refine then_n ?_
    refine wpIn_seq ?_
    refine plain ?_
    refine wpL.is (v := (eN ((a % (m : Int)).toNat))) rfl (d_move (v := (eN ((a % (m : Int)).toNat))) rfl) ?_
    refine wpL.is (v := (eN ((a % (m : Int)).toNat))) rfl (d_assign (v := (eN ((a % (m : Int)).toNat))) rfl) ?_
    refine wpL.flat [(eI a), (eN m), undef, undef, (eN ((a % (m : Int)).toNat)), (eN ((a % (m : Int)).toNat)), (eI a), (eN m), (eN ((a % (m : Int)).toNat)), (eN ((a % (m : Int)).toNat)), (Value.bool (decide (Int.tmod a (m : Int) < 0))), undef, undef, undef, (eN ((a % (m : Int)).toNat))] (by kernel_rfl) ?_
    refine wpL.done ?_
    refine then_n ?_
    refine wpIn_ret ?_
    refine leave0 (v := (eN ((a % (m : Int)).toNat))) (res1 Try.results13 rfl) ?_
    exact ⟨rfl, oW⟩

set_option maxRecDepth 20000 in
set_option maxHeartbeats 1000000 in
theorem known_ok (W : World) :
    CW Try.prog 10 #[] W (Rt (RIs (.bool true) W)) := by
  have oW : Only No W W := Only.refl _ _
  refine enter (al := []) (k := 36) (l := [undef, undef, undef, undef, undef, undef, undef, undef, undef, undef, undef, undef, undef, undef, undef, undef, undef, undef, undef, undef, undef, undef, undef, undef, undef, undef, undef, undef, undef, undef, undef, undef, undef, undef, undef, undef]) Try.func10 rfl Try.ntmps10 rfl rfl ?_
  refine wpIn_seq ?_
  refine plain ?_
  refine wpL.is (v := (Value.bool false)) rfl (d_assign (v := (Value.bool false)) rfl) ?_
  refine wpL.flat [(Value.bool false), undef, undef, undef, undef, undef, undef, undef, undef, undef, undef, undef, undef, undef, undef, undef, undef, undef, undef, undef, undef, undef, undef, undef, undef, undef, undef, undef, undef, undef, undef, undef, undef, undef, undef, undef] (by kernel_rfl) ?_
  refine wpL.done ?_
  refine then_n ?_
  refine wpIn_seq ?_
  refine plain ?_
  refine wpL.op rfl (d_call (xl := [.const (.int .i64 1)]) (al := [(eN 1)]) Try.func11 (by kernel_rfl) rfl rfl rfl (minimal_ok 1 _)) ?_
  rintro u3 w1 f4
  obtain ⟨f4, o2⟩ := f4
  replace f4 := f4.less (Y := (Old W.heap.size)) (old_old oW.size)
  replace oW := oW.tail0 o2
  refine wpL.is (v := u3) rfl (d_assign (v := u3) rfl) ?_
  refine wpL.flat [(Value.bool false), u3, u3, undef, undef, undef, undef, undef, undef, undef, undef, undef, undef, undef, undef, undef, undef, undef, undef, undef, undef, undef, undef, undef, undef, undef, undef, undef, undef, undef, undef, undef, undef, undef, undef, undef] (by kernel_rfl) ?_
  refine wpL.done ?_
  refine then_n ?_
  refine wpIn_seq ?_
  refine plain ?_
  refine wpL.is (v := u3) rfl (d_move (v := u3) rfl) ?_
  refine wpL.is (v := (eN ((minP 1).length))) rfl (d_lenS rfl Try.underlying23 rfl f4) ?_
  refine wpL.is (v := (Value.bool true)) rfl (n_eql (a := ((minP 1).length)) (b := 9) rfl rfl (decide_eq_true (by rw [minP_one]; rfl))) ?_
  refine wpL.flat [(Value.bool false), u3, u3, u3, (eN ((minP 1).length)), (Value.bool true), undef, undef, undef, undef, undef, undef, undef, undef, undef, undef, undef, undef, undef, undef, undef, undef, undef, undef, undef, undef, undef, undef, undef, undef, undef, undef, undef, undef, undef, undef] (by kernel_rfl) ?_
  refine wpL.is (v := (Value.bool true)) rfl (d_move (v := (Value.bool true)) rfl) ?_
  refine wpL.onis (v := u3) rfl rfl rfl (Nat.le_of_ble_eq_true rfl) rfl (d_move (v := u3) rfl) ?_
  refine wpL.on rfl rfl rfl (Nat.le_of_ble_eq_true rfl) rfl (d_indexS (q := kB) (xs := (minP 1)) (v := ((minP 1).getD 0 0)) Try.underlying23 s_ti5 rfl f4 (show _ = Value.int _ ((0 : Nat) : Int) from rfl) (by omega) (g_at (by rw [minP_one]; decide))) ?_
  rintro u5 _ ⟨f6, rfl⟩
  refine wpL.flat [(Value.bool false), u3, u3, u3, (eN ((minP 1).length)), (Value.bool true), (Value.bool true), u3, u5, undef, undef, undef, undef, undef, undef, undef, undef, undef, undef, undef, undef, undef, undef, undef, undef, undef, undef, undef, undef, undef, undef, undef, undef, undef, undef, undef] (by kernel_rfl) ?_
  refine wpL.onis (v := (eB ((minP 1).getD 0 0))) rfl rfl rfl (Nat.le_of_ble_eq_true rfl) rfl (d_loadAt (enc := eB) (v := ((minP 1).getD 0 0)) ⟨_, Try.underlying5, rfl⟩ rfl f6) ?_
  refine wpL.onis (v := (Value.bool true)) rfl rfl rfl (Nat.le_of_ble_eq_true rfl) rfl (b_eql (c := ((minP 1).getD 0 0)) (e := 1) rfl rfl (decide_eq_true (by rw [minP_one]; rfl))) ?_
  refine wpL.is (v := (Value.bool true)) rfl (d_pick (b := true) (v := (Value.bool true)) rfl rfl) ?_
  refine wpL.flat [(Value.bool false), u3, u3, u3, (eN ((minP 1).length)), (Value.bool true), (Value.bool true), u3, u5, (eB ((minP 1).getD 0 0)), (Value.bool true), (Value.bool true), undef, undef, undef, undef, undef, undef, undef, undef, undef, undef, undef, undef, undef, undef, undef, undef, undef, undef, undef, undef, undef, undef, undef, undef] (by kernel_rfl) ?_
  refine wpL.is (v := (Value.bool true)) rfl (d_move (v := (Value.bool true)) rfl) ?_
  refine wpL.onis (v := u3) rfl rfl rfl (Nat.le_of_ble_eq_true rfl) rfl (d_move (v := u3) rfl) ?_
  refine wpL.on rfl rfl rfl (Nat.le_of_ble_eq_true rfl) rfl (d_indexS (q := kB) (xs := (minP 1)) (v := ((minP 1).getD 2 0)) Try.underlying23 s_ti5 rfl f4 (show _ = Value.int _ ((2 : Nat) : Int) from rfl) (by omega) (g_at (by rw [minP_one]; decide))) ?_
  rintro u7 _ ⟨f8, rfl⟩
  refine wpL.flat [(Value.bool false), u3, u3, u3, (eN ((minP 1).length)), (Value.bool true), (Value.bool true), u3, u5, (eB ((minP 1).getD 0 0)), (Value.bool true), (Value.bool true), (Value.bool true), u3, u7, undef, undef, undef, undef, undef, undef, undef, undef, undef, undef, undef, undef, undef, undef, undef, undef, undef, undef, undef, undef, undef] (by kernel_rfl) ?_
  refine wpL.onis (v := (eB ((minP 1).getD 2 0))) rfl rfl rfl (Nat.le_of_ble_eq_true rfl) rfl (d_loadAt (enc := eB) (v := ((minP 1).getD 2 0)) ⟨_, Try.underlying5, rfl⟩ rfl f8) ?_
  refine wpL.onis (v := (Value.bool true)) rfl rfl rfl (Nat.le_of_ble_eq_true rfl) rfl (b_eql (c := ((minP 1).getD 2 0)) (e := 1) rfl rfl (decide_eq_true (by rw [minP_one]; rfl))) ?_
  refine wpL.is (v := (Value.bool true)) rfl (d_pick (b := true) (v := (Value.bool true)) rfl rfl) ?_
  refine wpL.flat [(Value.bool false), u3, u3, u3, (eN ((minP 1).length)), (Value.bool true), (Value.bool true), u3, u5, (eB ((minP 1).getD 0 0)), (Value.bool true), (Value.bool true), (Value.bool true), u3, u7, (eB ((minP 1).getD 2 0)), (Value.bool true), (Value.bool true), undef, undef, undef, undef, undef, undef, undef, undef, undef, undef, undef, undef, undef, undef, undef, undef, undef, undef] (by kernel_rfl) ?_
  refine wpL.is (v := (Value.bool true)) rfl (d_move (v := (Value.bool true)) rfl) ?_
  refine wpL.onis (v := u3) rfl rfl rfl (Nat.le_of_ble_eq_true rfl) rfl (d_move (v := u3) rfl) ?_
  refine wpL.on rfl rfl rfl (Nat.le_of_ble_eq_true rfl) rfl (d_indexS (q := kB) (xs := (minP 1)) (v := ((minP 1).getD 3 0)) Try.underlying23 s_ti5 rfl f4 (show _ = Value.int _ ((3 : Nat) : Int) from rfl) (by omega) (g_at (by rw [minP_one]; decide))) ?_
  rintro u9 _ ⟨f10, rfl⟩
  refine wpL.flat [(Value.bool false), u3, u3, u3, (eN ((minP 1).length)), (Value.bool true), (Value.bool true), u3, u5, (eB ((minP 1).getD 0 0)), (Value.bool true), (Value.bool true), (Value.bool true), u3, u7, (eB ((minP 1).getD 2 0)), (Value.bool true), (Value.bool true), (Value.bool true), u3, u9, undef, undef, undef, undef, undef, undef, undef, undef, undef, undef, undef, undef, undef, undef, undef] (by kernel_rfl) ?_
  refine wpL.onis (v := (eB ((minP 1).getD 3 0))) rfl rfl rfl (Nat.le_of_ble_eq_true rfl) rfl (d_loadAt (enc := eB) (v := ((minP 1).getD 3 0)) ⟨_, Try.underlying5, rfl⟩ rfl f10) ?_
  refine wpL.onis (v := (Value.bool true)) rfl rfl rfl (Nat.le_of_ble_eq_true rfl) rfl (b_eql (c := ((minP 1).getD 3 0)) (e := 1) rfl rfl (decide_eq_true (by rw [minP_one]; rfl))) ?_
  refine wpL.is (v := (Value.bool true)) rfl (d_pick (b := true) (v := (Value.bool true)) rfl rfl) ?_
  refine wpL.flat [(Value.bool false), u3, u3, u3, (eN ((minP 1).length)), (Value.bool true), (Value.bool true), u3, u5, (eB ((minP 1).getD 0 0)), (Value.bool true), (Value.bool true), (Value.bool true), u3, u7, (eB ((minP 1).getD 2 0)), (Value.bool true), (Value.bool true), (Value.bool true), u3, u9, (eB ((minP 1).getD 3 0)), (Value.bool true), (Value.bool true), undef, undef, undef, undef, undef, undef, undef, undef, undef, undef, undef, undef] (by kernel_rfl) ?_
  refine wpL.is (v := (Value.bool true)) rfl (d_move (v := (Value.bool true)) rfl) ?_
  refine wpL.onis (v := u3) rfl rfl rfl (Nat.le_of_ble_eq_true rfl) rfl (d_move (v := u3) rfl) ?_
  refine wpL.on rfl rfl rfl (Nat.le_of_ble_eq_true rfl) rfl (d_indexS (q := kB) (xs := (minP 1)) (v := ((minP 1).getD 4 0)) Try.underlying23 s_ti5 rfl f4 (show _ = Value.int _ ((4 : Nat) : Int) from rfl) (by omega) (g_at (by rw [minP_one]; decide))) ?_
  rintro u11 _ ⟨f12, rfl⟩
  refine wpL.flat [(Value.bool false), u3, u3, u3, (eN ((minP 1).length)), (Value.bool true), (Value.bool true), u3, u5, (eB ((minP 1).getD 0 0)), (Value.bool true), (Value.bool true), (Value.bool true), u3, u7, (eB ((minP 1).getD 2 0)), (Value.bool true), (Value.bool true), (Value.bool true), u3, u9, (eB ((minP 1).getD 3 0)), (Value.bool true), (Value.bool true), (Value.bool true), u3, u11, undef, undef, undef, undef, undef, undef, undef, undef, undef] (by kernel_rfl) ?_
  refine wpL.onis (v := (eB ((minP 1).getD 4 0))) rfl rfl rfl (Nat.le_of_ble_eq_true rfl) rfl (d_loadAt (enc := eB) (v := ((minP 1).getD 4 0)) ⟨_, Try.underlying5, rfl⟩ rfl f12) ?_
  refine wpL.onis (v := (Value.bool true)) rfl rfl rfl (Nat.le_of_ble_eq_true rfl) rfl (b_eql (c := ((minP 1).getD 4 0)) (e := 1) rfl rfl (decide_eq_true (by rw [minP_one]; rfl))) ?_
  refine wpL.is (v := (Value.bool true)) rfl (d_pick (b := true) (v := (Value.bool true)) rfl rfl) ?_
  refine wpL.flat [(Value.bool false), u3, u3, u3, (eN ((minP 1).length)), (Value.bool true), (Value.bool true), u3, u5, (eB ((minP 1).getD 0 0)), (Value.bool true), (Value.bool true), (Value.bool true), u3, u7, (eB ((minP 1).getD 2 0)), (Value.bool true), (Value.bool true), (Value.bool true), u3, u9, (eB ((minP 1).getD 3 0)), (Value.bool true), (Value.bool true), (Value.bool true), u3, u11, (eB ((minP 1).getD 4 0)), (Value.bool true), (Value.bool true), undef, undef, undef, undef, undef, undef] (by kernel_rfl) ?_
  refine wpL.is (v := (Value.bool true)) rfl (d_move (v := (Value.bool true)) rfl) ?_
  refine wpL.onis (v := u3) rfl rfl rfl (Nat.le_of_ble_eq_true rfl) rfl (d_move (v := u3) rfl) ?_
  refine wpL.on rfl rfl rfl (Nat.le_of_ble_eq_true rfl) rfl (d_indexS (q := kB) (xs := (minP 1)) (v := ((minP 1).getD 8 0)) Try.underlying23 s_ti5 rfl f4 (show _ = Value.int _ ((8 : Nat) : Int) from rfl) (by omega) (g_at (by rw [minP_one]; decide))) ?_
  rintro u13 _ ⟨f14, rfl⟩
  refine wpL.flat [(Value.bool false), u3, u3, u3, (eN ((minP 1).length)), (Value.bool true), (Value.bool true), u3, u5, (eB ((minP 1).getD 0 0)), (Value.bool true), (Value.bool true), (Value.bool true), u3, u7, (eB ((minP 1).getD 2 0)), (Value.bool true), (Value.bool true), (Value.bool true), u3, u9, (eB ((minP 1).getD 3 0)), (Value.bool true), (Value.bool true), (Value.bool true), u3, u11, (eB ((minP 1).getD 4 0)), (Value.bool true), (Value.bool true), (Value.bool true), u3, u13, undef, undef, undef] (by kernel_rfl) ?_
  refine wpL.onis (v := (eB ((minP 1).getD 8 0))) rfl rfl rfl (Nat.le_of_ble_eq_true rfl) rfl (d_loadAt (enc := eB) (v := ((minP 1).getD 8 0)) ⟨_, Try.underlying5, rfl⟩ rfl f14) ?_
  refine wpL.onis (v := (Value.bool true)) rfl rfl rfl (Nat.le_of_ble_eq_true rfl) rfl (b_eql (c := ((minP 1).getD 8 0)) (e := 1) rfl rfl (decide_eq_true (by rw [minP_one]; rfl))) ?_
  refine wpL.is (v := (Value.bool true)) rfl (d_pick (b := true) (v := (Value.bool true)) rfl rfl) ?_
  refine wpL.flat [(Value.bool false), u3, u3, u3, (eN ((minP 1).length)), (Value.bool true), (Value.bool true), u3, u5, (eB ((minP 1).getD 0 0)), (Value.bool true), (Value.bool true), (Value.bool true), u3, u7, (eB ((minP 1).getD 2 0)), (Value.bool true), (Value.bool true), (Value.bool true), u3, u9, (eB ((minP 1).getD 3 0)), (Value.bool true), (Value.bool true), (Value.bool true), u3, u11, (eB ((minP 1).getD 4 0)), (Value.bool true), (Value.bool true), (Value.bool true), u3, u13, (eB ((minP 1).getD 8 0)), (Value.bool true), (Value.bool true)] (by kernel_rfl) ?_
  refine wpL.is (v := (Value.bool true)) rfl (d_assign (v := (Value.bool true)) rfl) ?_
  refine wpL.flat [(Value.bool true), u3, u3, u3, (eN ((minP 1).length)), (Value.bool true), (Value.bool true), u3, u5, (eB ((minP 1).getD 0 0)), (Value.bool true), (Value.bool true), (Value.bool true), u3, u7, (eB ((minP 1).getD 2 0)), (Value.bool true), (Value.bool true), (Value.bool true), u3, u9, (eB ((minP 1).getD 3 0)), (Value.bool true), (Value.bool true), (Value.bool true), u3, u11, (eB ((minP 1).getD 4 0)), (Value.bool true), (Value.bool true), (Value.bool true), u3, u13, (eB ((minP 1).getD 8 0)), (Value.bool true), (Value.bool true)] (by kernel_rfl) ?_
  refine wpL.done ?_
  refine then_n ?_
  refine wpIn_ret ?_
  refine leave0 (v := (Value.bool true)) (res1 Try.results10 rfl) ?_
  exact ⟨rfl, oW⟩

set_option maxRecDepth 20000 in
set_option maxHeartbeats 1000000 in
theorem ref3Minimal_ok (n : Int) (W : World) :
    CW Try.prog 12 #[(eI n)] W (Rt (ROw 5 eB (minP n) W)) := by
  have oW : Only No W W := Only.refl _ _
  refine enter (al := [(eI n)]) (k := 28) (l := [(eI n), undef, undef, undef, undef, undef, undef, undef, undef, undef, undef, undef, undef, undef, undef, undef, undef, undef, undef, undef, undef, undef, undef, undef, undef, undef, undef, undef, undef]) Try.func12 rfl Try.ntmps12 rfl rfl ?_
  refine wpIn_seq ?_
  refine plain ?_
  refine wpL.is (v := (Value.slice none 0 0)) rfl (d_assign (v := (Value.slice none 0 0)) rfl) ?_
  refine wpL.flat [(eI n), undef, (Value.slice none 0 0), undef, undef, undef, undef, undef, undef, undef, undef, undef, undef, undef, undef, undef, undef, undef, undef, undef, undef, undef, undef, undef, undef, undef, undef, undef, undef] (by kernel_rfl) ?_
  refine wpL.done ?_
  refine then_n ?_
  refine wpIn_seq ?_
  refine plain ?_
  refine wpL.is (v := (eI n)) rfl (d_move (v := (eI n)) rfl) ?_
  refine wpL.is (v := (eI (Int.tmod n 255))) rfl (d_rem (k := .i64) (m := n) (n := 255) rfl rfl (by decide) rfl) ?_
  refine wpL.is (v := (eI (Int.tmod n 255))) rfl (d_assign (v := (eI (Int.tmod n 255))) rfl) ?_
  refine wpL.flat [(eI (Int.tmod n 255)), undef, (Value.slice none 0 0), undef, undef, (eI n), (eI (Int.tmod n 255)), undef, undef, undef, undef, undef, undef, undef, undef, undef, undef, undef, undef, undef, undef, undef, undef, undef, undef, undef, undef, undef, undef] (by kernel_rfl) ?_
  refine wpL.done ?_
  refine then_n ?_
  refine wpIn_seq ?_
  refine wpIn_seq ?_
  refine plain ?_
  refine wpL.is (v := (eI (Int.tmod n 255))) rfl (d_move (v := (eI (Int.tmod n 255))) rfl) ?_
  refine wpL.is (v := (Value.bool (decide (Int.tmod n 255 < 0)))) rfl (d_lss (k := .i64) (m := Int.tmod n 255) (n := 0) rfl rfl rfl) ?_
  refine wpL.flat [(eI (Int.tmod n 255)), undef, (Value.slice none 0 0), undef, undef, (eI n), (eI (Int.tmod n 255)), (eI (Int.tmod n 255)), (Value.bool (decide (Int.tmod n 255 < 0))), undef, undef, undef, undef, undef, undef, undef, undef, undef, undef, undef, undef, undef, undef, undef, undef, undef, undef, undef, undef] (by kernel_rfl) ?_
  refine wpL.done ?_
  refine then_n ?_
  refine cond_if rfl (fun k1 => ?_) (fun k1 => ?_)
  · skip
    refine plain ?_
    refine wpL.is (v := (eI (Int.tmod n 255))) rfl (d_move (v := (eI (Int.tmod n 255))) rfl) ?_
    refine wpL.is (v := (eN ((n % 255).toNat))) rfl (d_add (k := .i64) (m := Int.tmod n 255) (n := 255) rfl rfl (r := (((n % 255).toNat : Nat) : Int)) (tm_neg k1)) ?_
    refine wpL.is (v := (eN ((n % 255).toNat))) rfl (d_assign (v := (eN ((n % 255).toNat))) rfl) ?_
    refine wpL.flat [(eN ((n % 255).toNat)), undef, (Value.slice none 0 0), undef, undef, (eI n), (eI (Int.tmod n 255)), (eI (Int.tmod n 255)), (Value.bool (decide (Int.tmod n 255 < 0))), (eI (Int.tmod n 255)), (eN ((n % 255).toNat)), undef, undef, undef, undef, undef, undef, undef, undef, undef, undef, undef, undef, undef, undef, undef, undef, undef, undef] (by kernel_rfl) ?_
    refine wpL.done ?_
    refine then_n ?_
    refine wpIn_seq ?_
    refine plain ?_
    refine wpL.is (v := (eN ((n % 255).toNat))) rfl (d_move (v := (eN ((n % 255).toNat))) rfl) ?_
    refine wpL.op rfl (d_call (xl := [.tmp 11]) (al := [(eN ((n % 255).toNat))]) Try.func15 (by kernel_rfl) rfl rfl rfl (ref2Exp_ok (((n % 255).toNat : Nat) : Int) _)) ?_
    rintro _ w1 ⟨rfl, o2⟩
    replace oW := oW.tail0 o2
    refine wpL.op rfl (d_buildL (cs := [(eB (exI (((n % 255).toNat : Nat) : Int))), (eB 1)]) Try.underlying23 s_ti5 rfl (Nat.le_of_ble_eq_true rfl) (parts_cons (vs := [(eB (exI (((n % 255).toNat : Nat) : Int)))]) (cells_of (v := (eB (exI (((n % 255).toNat : Nat) : Int)))) rfl rfl) (parts_cons (vs := [(eB 1)]) (cells_of (v := (eB 1)) rfl rfl) parts_nil)) rfl) ?_
    rintro _ w3 ⟨o, rfl, g4, a5, o6⟩
    replace a5 : Arr 5 o (([exI (((n % 255).toNat : Nat) : Int), 1] : List UInt8).map eB) w3 := a5
    have l_o : ([exI (((n % 255).toNat : Nat) : Int), 1] : List UInt8).length = 2 := rfl
    have g_oW_o : W.heap.size ≤ o := Nat.le_trans oW.size g4
    replace oW := oW.tail0 o6
    refine wpL.flat [(eN ((n % 255).toNat)), undef, (Value.slice none 0 0), undef, undef, (eI n), (eI (Int.tmod n 255)), (eI (Int.tmod n 255)), (Value.bool (decide (Int.tmod n 255 < 0))), (eI (Int.tmod n 255)), (eN ((n % 255).toNat)), (eN ((n % 255).toNat)), (eB (exI (((n % 255).toNat : Nat) : Int))), (sli o 0 2 2), undef, undef, undef, undef, undef, undef, undef, undef, undef, undef, undef, undef, undef, undef, undef] (by kernel_rfl) ?_
    refine wpL.is (v := (sli o 0 2 2)) rfl (d_assign (v := (sli o 0 2 2)) rfl) ?_
    refine wpL.flat [(eN ((n % 255).toNat)), undef, (Value.slice none 0 0), (sli o 0 2 2), undef, (eI n), (eI (Int.tmod n 255)), (eI (Int.tmod n 255)), (Value.bool (decide (Int.tmod n 255 < 0))), (eI (Int.tmod n 255)), (eN ((n % 255).toNat)), (eN ((n % 255).toNat)), (eB (exI (((n % 255).toNat : Nat) : Int))), (sli o 0 2 2), undef, undef, undef, undef, undef, undef, undef, undef, undef, undef, undef, undef, undef, undef, undef] (by kernel_rfl) ?_
    refine wpL.done ?_
    have a7 := Ow.of_map2 a5 l_o
    have q_oW_r : Fr (some o) none W.heap.size := Fr.new g_oW_o
    refine then_n ?_
    refine wpIn_seq ?_
    refine wpIn_seq ?_
    refine plain ?_
    refine wpL.is (v := (eN ((n % 255).toNat))) rfl (d_move (v := (eN ((n % 255).toNat))) rfl) ?_
    refine wpL.is (v := (eN (2 * ((n % 255).toNat)))) rfl (n_mul (a := 2) (b := ((n % 255).toNat)) rfl rfl (by have := toNat255 n; omega)) ?_
    refine wpL.is (v := (eN ((2 * ((n % 255).toNat)) % 255))) rfl (n_rem (a := (2 * ((n % 255).toNat))) (b := 255) rfl rfl (by decide)) ?_
    refine wpL.flat [(eN ((n % 255).toNat)), undef, (Value.slice none 0 0), (sli o 0 2 2), undef, (eI n), (eI (Int.tmod n 255)), (eI (Int.tmod n 255)), (Value.bool (decide (Int.tmod n 255 < 0))), (eI (Int.tmod n 255)), (eN ((n % 255).toNat)), (eN ((n % 255).toNat)), (eB (exI (((n % 255).toNat : Nat) : Int))), (sli o 0 2 2), (eN ((n % 255).toNat)), (eN (2 * ((n % 255).toNat))), (eN ((2 * ((n % 255).toNat)) % 255)), undef, undef, undef, undef, undef, undef, undef, undef, undef, undef, undef, undef] (by kernel_rfl) ?_
    refine wpL.is (v := (eN ((2 * ((n % 255).toNat)) % 255))) rfl (d_assign (v := (eN ((2 * ((n % 255).toNat)) % 255))) rfl) ?_
    refine wpL.flat [(eN ((n % 255).toNat)), undef, (Value.slice none 0 0), (sli o 0 2 2), (eN ((2 * ((n % 255).toNat)) % 255)), (eI n), (eI (Int.tmod n 255)), (eI (Int.tmod n 255)), (Value.bool (decide (Int.tmod n 255 < 0))), (eI (Int.tmod n 255)), (eN ((n % 255).toNat)), (eN ((n % 255).toNat)), (eB (exI (((n % 255).toNat : Nat) : Int))), (sli o 0 2 2), (eN ((n % 255).toNat)), (eN (2 * ((n % 255).toNat))), (eN ((2 * ((n % 255).toNat)) % 255)), undef, undef, undef, undef, undef, undef, undef, undef, undef, undef, undef, undef] (by kernel_rfl) ?_
    refine wpL.done ?_
    refine fr_eq (l' := [(eN ((n % 255).toNat)), undef, (Value.slice none 0 0), (sli o 0 2 2), (eN (orb (n % 255).toNat 1)), (eI n), (eI (Int.tmod n 255)), (eI (Int.tmod n 255)), (Value.bool (decide (Int.tmod n 255 < 0))), (eI (Int.tmod n 255)), (eN ((n % 255).toNat)), (eN ((n % 255).toNat)), (eB (exI (((n % 255).toNat : Nat) : Int))), (sli o 0 2 2), (eN ((n % 255).toNat)), (eN (2 * ((n % 255).toNat))), (eN ((2 * ((n % 255).toNat)) % 255)), undef, undef, undef, undef, undef, undef, undef, undef, undef, undef, undef, undef]) (show ([(eN ((n % 255).toNat)), undef, (Value.slice none 0 0), (sli o 0 2 2), (eN ((2 * ((n % 255).toNat)) % 255)), (eI n), (eI (Int.tmod n 255)), (eI (Int.tmod n 255)), (Value.bool (decide (Int.tmod n 255 < 0))), (eI (Int.tmod n 255)), (eN ((n % 255).toNat)), (eN ((n % 255).toNat)), (eB (exI (((n % 255).toNat : Nat) : Int))), (sli o 0 2 2), (eN ((n % 255).toNat)), (eN (2 * ((n % 255).toNat))), (eN ((2 * ((n % 255).toNat)) % 255)), undef, undef, undef, undef, undef, undef, undef, undef, undef, undef, undef, undef] : List Value) = [(eN ((n % 255).toNat)), undef, (Value.slice none 0 0), (sli o 0 2 2), (eN (orb (n % 255).toNat 1)), (eI n), (eI (Int.tmod n 255)), (eI (Int.tmod n 255)), (Value.bool (decide (Int.tmod n 255 < 0))), (eI (Int.tmod n 255)), (eN ((n % 255).toNat)), (eN ((n % 255).toNat)), (eB (exI (((n % 255).toNat : Nat) : Int))), (sli o 0 2 2), (eN ((n % 255).toNat)), (eN (2 * ((n % 255).toNat))), (eN ((2 * ((n % 255).toNat)) % 255)), undef, undef, undef, undef, undef, undef, undef, undef, undef, undef, undef, undef] from reslot [(eN ((n % 255).toNat)), undef, (Value.slice none 0 0), (sli o 0 2 2), (eN ((2 * ((n % 255).toNat)) % 255)), (eI n), (eI (Int.tmod n 255)), (eI (Int.tmod n 255)), (Value.bool (decide (Int.tmod n 255 < 0))), (eI (Int.tmod n 255)), (eN ((n % 255).toNat)), (eN ((n % 255).toNat)), (eB (exI (((n % 255).toNat : Nat) : Int))), (sli o 0 2 2), (eN ((n % 255).toNat)), (eN (2 * ((n % 255).toNat))), (eN ((2 * ((n % 255).toNat)) % 255)), undef, undef, undef, undef, undef, undef, undef, undef, undef, undef, undef, undef] 4 (congrArg eN (orb_one (toNat255 n)))) ?_
    refine then_n ?_
    refine wpIn_block ?_
    have h_lts_r := a7.lts
    refine loop2 (fun (s_ : (Nat) × (Option Nat) × (Value)) => match s_ with | ⟨i, bo_r, u_r⟩ => fun (z : Nat → Value) => ([(eN ((n % 255).toNat)), undef, (Value.slice none 0 0), u_r, (eN (orb (n % 255).toNat i)), (eI n), (eI (Int.tmod n 255)), (eI (Int.tmod n 255)), (Value.bool (decide (Int.tmod n 255 < 0))), (eI (Int.tmod n 255)), (eN ((n % 255).toNat)), (eN ((n % 255).toNat)), (eB (exI (((n % 255).toNat : Nat) : Int))), (sli o 0 2 2), (eN ((n % 255).toNat)), (eN (2 * ((n % 255).toNat))), (eN ((2 * ((n % 255).toNat)) % 255)), (z 17), (z 18), (z 19), (z 20), (z 21), (z 22), (z 23), (z 24), (z 25), (z 26), (z 27), undef] : List Value)) (fun (s_ : (Nat) × (Option Nat) × (Value)) => match s_ with | ⟨i, bo_r, u_r⟩ => fun (w_ : World) => (0 < i ∧ i ≤ per (n % 255).toNat) ∧ Only (Orq (some o) No) w3 w_ ∧ Ow 5 1 bo_r u_r (minL ((orbit (n % 255).toNat).take i)).length ((minL ((orbit (n % 255).toNat).take i)).map eB) w_ ∧ Fr bo_r (some o) w3.heap.size) (fun (s_ : (Nat) × (Option Nat) × (Value)) => match s_ with | ⟨i, bo_r, u_r⟩ => 8 - i) ⟨1, (some o), (sli o 0 2 2)⟩ rfl ?_ ?_
    · refine ⟨?_, ?_, ?_, ?_⟩
      · (try dsimp only)
        all_goals (have := per_pos (n % 255).toNat; omega)
      · (try dsimp only)
        all_goals (exact Only.refl _ _)
      · (try dsimp only)
        all_goals (rw [minL_first (toNat255 n), ← exI_nat]; exact a7)
      · (try dsimp only)
        all_goals (exact Fr.same)
    · rintro ⟨i, bo_r, u_r⟩ z w9 ⟨hi, o8, a7, qq_r⟩
      (try dsimp only)
      have tq_oW := oW.size
      replace oW := oW.tail o8 (tl_q q_oW_r (fun _ e => by cases e) tl_no)
      replace q_oW_r := qtr qq_r q_oW_r tq_oW
      have q_o8_r := qq_r
      refine wpIn_seq ?_
      refine wpIn_seq ?_
      refine plain ?_
      refine wpL.is (v := (eN (orb (n % 255).toNat i))) rfl (d_move (v := (eN (orb (n % 255).toNat i))) rfl) ?_
      refine wpL.is (v := (eN ((n % 255).toNat))) rfl (d_move (v := (eN ((n % 255).toNat))) rfl) ?_
      refine wpL.is (v := (Value.bool (!decide ((orb (n % 255).toNat i) = ((n % 255).toNat))))) rfl (n_neq (a := (orb (n % 255).toNat i)) (b := ((n % 255).toNat)) rfl rfl rfl) ?_
      refine wpL.flat [(eN ((n % 255).toNat)), undef, (Value.slice none 0 0), u_r, (eN (orb (n % 255).toNat i)), (eI n), (eI (Int.tmod n 255)), (eI (Int.tmod n 255)), (Value.bool (decide (Int.tmod n 255 < 0))), (eI (Int.tmod n 255)), (eN ((n % 255).toNat)), (eN ((n % 255).toNat)), (eB (exI (((n % 255).toNat : Nat) : Int))), (sli o 0 2 2), (eN ((n % 255).toNat)), (eN (2 * ((n % 255).toNat))), (eN ((2 * ((n % 255).toNat)) % 255)), (eN (orb (n % 255).toNat i)), (eN ((n % 255).toNat)), (Value.bool (!decide ((orb (n % 255).toNat i) = ((n % 255).toNat)))), (z 20), (z 21), (z 22), (z 23), (z 24), (z 25), (z 26), (z 27), undef] (by kernel_rfl) ?_
      refine wpL.done ?_
      refine then_n ?_
      refine cond_un rfl (fun c0 => ?_) (fun c0 => ?_)
      · skip
        refine wpIn_skip ?_
        refine then_n ?_
        refine wpIn_seq ?_
        refine wpIn_block ?_
        have hl_ := minL_take (n % 255).toNat i
        have hp_ := per_le (n % 255).toNat
        refine plain ?_
        refine wpL.is (v := u_r) rfl (d_move (v := u_r) rfl) ?_
        refine wpL.is (v := (eN (orb (n % 255).toNat i))) rfl (d_move (v := (eN (orb (n % 255).toNat i))) rfl) ?_
        refine wpL.op rfl (d_call (xl := [.tmp 24]) (al := [(eN (orb (n % 255).toNat i))]) Try.func15 (by kernel_rfl) rfl rfl rfl (ref2Exp_ok ((orb (n % 255).toNat i : Nat) : Int) _)) ?_
        rintro _ w10 ⟨rfl, o11⟩
        replace a7 := a7.step0 o11
        replace oW := oW.tail0 o11
        replace o8 := o8.tail0 o11
        refine wpL.flat [(eN ((n % 255).toNat)), undef, (Value.slice none 0 0), u_r, (eN (orb (n % 255).toNat i)), (eI n), (eI (Int.tmod n 255)), (eI (Int.tmod n 255)), (Value.bool (decide (Int.tmod n 255 < 0))), (eI (Int.tmod n 255)), (eN ((n % 255).toNat)), (eN ((n % 255).toNat)), (eB (exI (((n % 255).toNat : Nat) : Int))), (sli o 0 2 2), (eN ((n % 255).toNat)), (eN (2 * ((n % 255).toNat))), (eN ((2 * ((n % 255).toNat)) % 255)), (eN (orb (n % 255).toNat i)), (eN ((n % 255).toNat)), (Value.bool (!decide ((orb (n % 255).toNat i) = ((n % 255).toNat)))), (z 20), (z 21), (z 22), u_r, (eN (orb (n % 255).toNat i)), (eB (exI ((orb (n % 255).toNat i : Nat) : Int))), (z 26), (z 27), undef] (by kernel_rfl) ?_
        refine wpL.op rfl (d_buildL (cs := [(eB (exI ((orb (n % 255).toNat i : Nat) : Int))), (eB 1)]) Try.underlying23 s_ti5 rfl (Nat.le_of_ble_eq_true rfl) (parts_cons (vs := [(eB (exI ((orb (n % 255).toNat i : Nat) : Int)))]) (cells_of (v := (eB (exI ((orb (n % 255).toNat i : Nat) : Int)))) rfl rfl) (parts_cons (vs := [(eB 1)]) (cells_of (v := (eB 1)) rfl rfl) parts_nil)) rfl) ?_
        rintro _ w13 ⟨b12, rfl, g14, a15, o16⟩
        replace a15 : Arr 5 b12 (([exI ((orb (n % 255).toNat i : Nat) : Int), 1] : List UInt8).map eB) w13 := a15
        have l_b12 : ([exI ((orb (n % 255).toNat i : Nat) : Int), 1] : List UInt8).length = 2 := rfl
        have nq_r_b12 : ∀ x, bo_r = some x → ¬ x = b12 := fun x hx e => by have := a7.lts x hx; omega
        have g_oW_b12 : W.heap.size ≤ b12 := Nat.le_trans oW.size g14
        have g_o8_b12 : w3.heap.size ≤ b12 := Nat.le_trans o8.size g14
        replace a7 := a7.step0 o16
        replace oW := oW.tail0 o16
        replace o8 := o8.tail0 o16
        refine wpL.op rfl (d_call (xl := [.tmp 23, .tmp 26]) (al := [u_r, (sli b12 0 2 2)]) Try.func24 (by kernel_rfl) rfl rfl rfl (ref3Mul_ok (minL ((orbit (n % 255).toNat).take i)) ([exI ((orb (n % 255).toNat i : Nat) : Int), 1] : List UInt8) u_r (sli b12 0 2 2) _ (Ps.no (a7.seq (X := No) (fun _ _ h => h))) (Ps.no (arr_seq a15 l_b12 (Nat.le_refl _))) (by first | omega | (simp; done) | (simp; omega)) (by first | omega | (simp; done) | (simp; omega)))) ?_
        rintro u19 w17 f20
        obtain ⟨bo21, f20, g22, o18⟩ := f20
        have nq_r2_b12 := nq_new g22 a15.lt
        have nqq_r_r2 := nqq_new g22 a7.lts
        have q_oW_r2 := qnew g22 oW.size
        have q_o8_r2 := qnew g22 o8.size
        replace a15 := a15.step0 o18
        replace a7 := a7.step0 o18
        replace oW := oW.tail0 o18
        replace o8 := o8.tail0 o18
        refine wpL.is (v := u19) rfl (d_assign (v := u19) rfl) ?_
        refine wpL.flat [(eN ((n % 255).toNat)), undef, (Value.slice none 0 0), u19, (eN (orb (n % 255).toNat i)), (eI n), (eI (Int.tmod n 255)), (eI (Int.tmod n 255)), (Value.bool (decide (Int.tmod n 255 < 0))), (eI (Int.tmod n 255)), (eN ((n % 255).toNat)), (eN ((n % 255).toNat)), (eB (exI (((n % 255).toNat : Nat) : Int))), (sli o 0 2 2), (eN ((n % 255).toNat)), (eN (2 * ((n % 255).toNat))), (eN ((2 * ((n % 255).toNat)) % 255)), (eN (orb (n % 255).toNat i)), (eN ((n % 255).toNat)), (Value.bool (!decide ((orb (n % 255).toNat i) = ((n % 255).toNat)))), (z 20), (z 21), (z 22), u_r, (eN (orb (n % 255).toNat i)), (eB (exI ((orb (n % 255).toNat i : Nat) : Int))), (sli b12 0 2 2), u19, undef] (by kernel_rfl) ?_
        refine wpL.done ?_
        refine inb_n (then_n ?_)
        refine plain ?_
        refine wpL.is (v := (eN (orb (n % 255).toNat i))) rfl (d_move (v := (eN (orb (n % 255).toNat i))) rfl) ?_
        refine wpL.is (v := (eN (2 * (orb (n % 255).toNat i)))) rfl (n_mul (a := 2) (b := (orb (n % 255).toNat i)) rfl rfl (by have := orb_lt (n % 255).toNat i; omega)) ?_
        refine wpL.is (v := (eN ((2 * (orb (n % 255).toNat i)) % 255))) rfl (n_rem (a := (2 * (orb (n % 255).toNat i))) (b := 255) rfl rfl (by decide)) ?_
        refine wpL.flat [(eN ((n % 255).toNat)), undef, (Value.slice none 0 0), u19, (eN (orb (n % 255).toNat i)), (eI n), (eI (Int.tmod n 255)), (eI (Int.tmod n 255)), (Value.bool (decide (Int.tmod n 255 < 0))), (eI (Int.tmod n 255)), (eN ((n % 255).toNat)), (eN ((n % 255).toNat)), (eB (exI (((n % 255).toNat : Nat) : Int))), (sli o 0 2 2), (eN ((n % 255).toNat)), (eN (2 * ((n % 255).toNat))), (eN ((2 * ((n % 255).toNat)) % 255)), (eN (orb (n % 255).toNat i)), (eN ((n % 255).toNat)), (Value.bool (!decide ((orb (n % 255).toNat i) = ((n % 255).toNat)))), (eN (orb (n % 255).toNat i)), (eN (2 * (orb (n % 255).toNat i))), (eN ((2 * (orb (n % 255).toNat i)) % 255)), u_r, (eN (orb (n % 255).toNat i)), (eB (exI ((orb (n % 255).toNat i : Nat) : Int))), (sli b12 0 2 2), u19, undef] (by kernel_rfl) ?_
        refine wpL.is (v := (eN ((2 * (orb (n % 255).toNat i)) % 255))) rfl (d_assign (v := (eN ((2 * (orb (n % 255).toNat i)) % 255))) rfl) ?_
        refine wpL.flat [(eN ((n % 255).toNat)), undef, (Value.slice none 0 0), u19, (eN ((2 * (orb (n % 255).toNat i)) % 255)), (eI n), (eI (Int.tmod n 255)), (eI (Int.tmod n 255)), (Value.bool (decide (Int.tmod n 255 < 0))), (eI (Int.tmod n 255)), (eN ((n % 255).toNat)), (eN ((n % 255).toNat)), (eB (exI (((n % 255).toNat : Nat) : Int))), (sli o 0 2 2), (eN ((n % 255).toNat)), (eN (2 * ((n % 255).toNat))), (eN ((2 * ((n % 255).toNat)) % 255)), (eN (orb (n % 255).toNat i)), (eN ((n % 255).toNat)), (Value.bool (!decide ((orb (n % 255).toNat i) = ((n % 255).toNat)))), (eN (orb (n % 255).toNat i)), (eN (2 * (orb (n % 255).toNat i))), (eN ((2 * (orb (n % 255).toNat i)) % 255)), u_r, (eN (orb (n % 255).toNat i)), (eB (exI ((orb (n % 255).toNat i : Nat) : Int))), (sli b12 0 2 2), u19, undef] (by kernel_rfl) ?_
        refine wpL.done ?_
        refine then_n ?_
        refine ⟨[(eN ((n % 255).toNat)), undef, (Value.slice none 0 0), u19, (eN (orb (n % 255).toNat (i + 1))), (eI n), (eI (Int.tmod n 255)), (eI (Int.tmod n 255)), (Value.bool (decide (Int.tmod n 255 < 0))), (eI (Int.tmod n 255)), (eN ((n % 255).toNat)), (eN ((n % 255).toNat)), (eB (exI (((n % 255).toNat : Nat) : Int))), (sli o 0 2 2), (eN ((n % 255).toNat)), (eN (2 * ((n % 255).toNat))), (eN ((2 * ((n % 255).toNat)) % 255)), (eN (orb (n % 255).toNat i)), (eN ((n % 255).toNat)), (Value.bool (!decide ((orb (n % 255).toNat i) = ((n % 255).toNat)))), (eN (orb (n % 255).toNat i)), (eN (2 * (orb (n % 255).toNat i))), (eN ((2 * (orb (n % 255).toNat i)) % 255)), u_r, (eN (orb (n % 255).toNat i)), (eB (exI ((orb (n % 255).toNat i : Nat) : Int))), (sli b12 0 2 2), u19, undef], ⟨i + 1, bo21, u19⟩, (congrArg (fun l_ => fr l_ _) (show ([(eN ((n % 255).toNat)), undef, (Value.slice none 0 0), u19, (eN ((2 * (orb (n % 255).toNat i)) % 255)), (eI n), (eI (Int.tmod n 255)), (eI (Int.tmod n 255)), (Value.bool (decide (Int.tmod n 255 < 0))), (eI (Int.tmod n 255)), (eN ((n % 255).toNat)), (eN ((n % 255).toNat)), (eB (exI (((n % 255).toNat : Nat) : Int))), (sli o 0 2 2), (eN ((n % 255).toNat)), (eN (2 * ((n % 255).toNat))), (eN ((2 * ((n % 255).toNat)) % 255)), (eN (orb (n % 255).toNat i)), (eN ((n % 255).toNat)), (Value.bool (!decide ((orb (n % 255).toNat i) = ((n % 255).toNat)))), (eN (orb (n % 255).toNat i)), (eN (2 * (orb (n % 255).toNat i))), (eN ((2 * (orb (n % 255).toNat i)) % 255)), u_r, (eN (orb (n % 255).toNat i)), (eB (exI ((orb (n % 255).toNat i : Nat) : Int))), (sli b12 0 2 2), u19, undef] : List Value) = [(eN ((n % 255).toNat)), undef, (Value.slice none 0 0), u19, (eN (orb (n % 255).toNat (i + 1))), (eI n), (eI (Int.tmod n 255)), (eI (Int.tmod n 255)), (Value.bool (decide (Int.tmod n 255 < 0))), (eI (Int.tmod n 255)), (eN ((n % 255).toNat)), (eN ((n % 255).toNat)), (eB (exI (((n % 255).toNat : Nat) : Int))), (sli o 0 2 2), (eN ((n % 255).toNat)), (eN (2 * ((n % 255).toNat))), (eN ((2 * ((n % 255).toNat)) % 255)), (eN (orb (n % 255).toNat i)), (eN ((n % 255).toNat)), (Value.bool (!decide ((orb (n % 255).toNat i) = ((n % 255).toNat)))), (eN (orb (n % 255).toNat i)), (eN (2 * (orb (n % 255).toNat i))), (eN ((2 * (orb (n % 255).toNat i)) % 255)), u_r, (eN (orb (n % 255).toNat i)), (eB (exI ((orb (n % 255).toNat i : Nat) : Int))), (sli b12 0 2 2), u19, undef] from reslot [(eN ((n % 255).toNat)), undef, (Value.slice none 0 0), u19, (eN ((2 * (orb (n % 255).toNat i)) % 255)), (eI n), (eI (Int.tmod n 255)), (eI (Int.tmod n 255)), (Value.bool (decide (Int.tmod n 255 < 0))), (eI (Int.tmod n 255)), (eN ((n % 255).toNat)), (eN ((n % 255).toNat)), (eB (exI (((n % 255).toNat : Nat) : Int))), (sli o 0 2 2), (eN ((n % 255).toNat)), (eN (2 * ((n % 255).toNat))), (eN ((2 * ((n % 255).toNat)) % 255)), (eN (orb (n % 255).toNat i)), (eN ((n % 255).toNat)), (Value.bool (!decide ((orb (n % 255).toNat i) = ((n % 255).toNat)))), (eN (orb (n % 255).toNat i)), (eN (2 * (orb (n % 255).toNat i))), (eN ((2 * (orb (n % 255).toNat i)) % 255)), u_r, (eN (orb (n % 255).toNat i)), (eB (exI ((orb (n % 255).toNat i : Nat) : Int))), (sli b12 0 2 2), u19, undef] 4 (congrArg eN (orb_succ (n % 255).toNat i)))), rfl, ⟨?_, ?_, ?_, ?_⟩, ?_⟩
        · (try dsimp only)
          all_goals (exact ref3min_step n hi c0)
        · (try dsimp only)
          all_goals (exact o8)
        · (try dsimp only)
          all_goals (rw [← minL_next n hi c0, ← exI_nat]; exact f20)
        · (try dsimp only)
          all_goals (exact fun c hc => (q_o8_r2 c hc).elim (fun h => by cases h) .inr)
        · (try dsimp only)
          all_goals (have := ref3min_step n hi c0; omega)
      · skip
        refine wpIn_exit ?_
        refine then_x (then_x (inb_e ?_))
        refine then_n ?_
        refine wpIn_seq ?_
        refine plain ?_
        refine wpL.is (v := u_r) rfl (d_move (v := u_r) rfl) ?_
        refine wpL.is (v := u_r) rfl (d_assign (v := u_r) rfl) ?_
        refine wpL.flat [(eN ((n % 255).toNat)), undef, u_r, u_r, (eN (orb (n % 255).toNat i)), (eI n), (eI (Int.tmod n 255)), (eI (Int.tmod n 255)), (Value.bool (decide (Int.tmod n 255 < 0))), (eI (Int.tmod n 255)), (eN ((n % 255).toNat)), (eN ((n % 255).toNat)), (eB (exI (((n % 255).toNat : Nat) : Int))), (sli o 0 2 2), (eN ((n % 255).toNat)), (eN (2 * ((n % 255).toNat))), (eN ((2 * ((n % 255).toNat)) % 255)), (eN (orb (n % 255).toNat i)), (eN ((n % 255).toNat)), (Value.bool (!decide ((orb (n % 255).toNat i) = ((n % 255).toNat)))), (z 20), (z 21), (z 22), (z 23), (z 24), (z 25), (z 26), (z 27), u_r] (by kernel_rfl) ?_
        refine wpL.done ?_
        refine then_n ?_
        refine wpIn_ret ?_
        refine leave0 (v := u_r) (res1 Try.results12 rfl) ?_
        exact ROw.mk_ a7 (by rw [ref3min_done n hi c0]) q_oW_r oW
  · skip
    refine wp_eq (l' := [(eN ((n % 255).toNat)), undef, (Value.slice none 0 0), undef, undef, (eI n), (eN ((n % 255).toNat)), (eN ((n % 255).toNat)), (Value.bool (decide (Int.tmod n 255 < 0))), undef, undef, undef, undef, undef, undef, undef, undef, undef, undef, undef, undef, undef, undef, undef, undef, undef, undef, undef, undef]) (Eq.trans (Eq.trans (show ([(eI (Int.tmod n 255)), undef, (Value.slice none 0 0), undef, undef, (eI n), (eI (Int.tmod n 255)), (eI (Int.tmod n 255)), (Value.bool (decide (Int.tmod n 255 < 0))), undef, undef, undef, undef, undef, undef, undef, undef, undef, undef, undef, undef, undef, undef, undef, undef, undef, undef, undef, undef] : List Value) = [(eN ((n % 255).toNat)), undef, (Value.slice none 0 0), undef, undef, (eI n), (eI (Int.tmod n 255)), (eI (Int.tmod n 255)), (Value.bool (decide (Int.tmod n 255 < 0))), undef, undef, undef, undef, undef, undef, undef, undef, undef, undef, undef, undef, undef, undef, undef, undef, undef, undef, undef, undef] from reslot [(eI (Int.tmod n 255)), undef, (Value.slice none 0 0), undef, undef, (eI n), (eI (Int.tmod n 255)), (eI (Int.tmod n 255)), (Value.bool (decide (Int.tmod n 255 < 0))), undef, undef, undef, undef, undef, undef, undef, undef, undef, undef, undef, undef, undef, undef, undef, undef, undef, undef, undef, undef] 0 (tm_pos k1)) (show ([(eN ((n % 255).toNat)), undef, (Value.slice none 0 0), undef, undef, (eI n), (eI (Int.tmod n 255)), (eI (Int.tmod n 255)), (Value.bool (decide (Int.tmod n 255 < 0))), undef, undef, undef, undef, undef, undef, undef, undef, undef, undef, undef, undef, undef, undef, undef, undef, undef, undef, undef, undef] : List Value) = [(eN ((n % 255).toNat)), undef, (Value.slice none 0 0), undef, undef, (eI n), (eN ((n % 255).toNat)), (eI (Int.tmod n 255)), (Value.bool (decide (Int.tmod n 255 < 0))), undef, undef, undef, undef, undef, undef, undef, undef, undef, undef, undef, undef, undef, undef, undef, undef, undef, undef, undef, undef] from reslot [(eN ((n % 255).toNat)), undef, (Value.slice none 0 0), undef, undef, (eI n), (eI (Int.tmod n 255)), (eI (Int.tmod n 255)), (Value.bool (decide (Int.tmod n 255 < 0))), undef, undef, undef, undef, undef, undef, undef, undef, undef, undef, undef, undef, undef, undef, undef, undef, undef, undef, undef, undef] 6 (tm_pos k1))) (show ([(eN ((n % 255).toNat)), undef, (Value.slice none 0 0), undef, undef, (eI n), (eN ((n % 255).toNat)), (eI (Int.tmod n 255)), (Value.bool (decide (Int.tmod n 255 < 0))), undef, undef, undef, undef, undef, undef, undef, undef, undef, undef, undef, undef, undef, undef, undef, undef, undef, undef, undef, undef] : List Value) = [(eN ((n % 255).toNat)), undef, (Value.slice none 0 0), undef, undef, (eI n), (eN ((n % 255).toNat)), (eN ((n % 255).toNat)), (Value.bool (decide (Int.tmod n 255 < 0))), undef, undef, undef, undef, undef, undef, undef, undef, undef, undef, undef, undef, undef, undef, undef, undef, undef, undef, undef, undef] from reslot [(eN ((n % 255).toNat)), undef, (Value.slice none 0 0), undef, undef, (eI n), (eN ((n % 255).toNat)), (eI (Int.tmod n 255)), (Value.bool (decide (Int.tmod n 255 < 0))), undef, undef, undef, undef, undef, undef, undef, undef, undef, undef, undef, undef, undef, undef, undef, undef, undef, undef, undef, undef] 7 (tm_pos k1))) ?_
    refine wpIn_skip ?_
    refine then_n ?_
    refine wpIn_seq ?_
    refine plain ?_
    refine wpL.is (v := (eN ((n % 255).toNat))) rfl (d_move (v := (eN ((n % 255).toNat))) rfl) ?_
    refine wpL.op rfl (d_call (xl := [.tmp 11]) (al := [(eN ((n % 255).toNat))]) Try.func15 (by kernel_rfl) rfl rfl rfl (ref2Exp_ok (((n % 255).toNat : Nat) : Int) _)) ?_
    rintro _ w23 ⟨rfl, o24⟩
    replace oW := oW.tail0 o24
    refine wpL.op rfl (d_buildL (cs := [(eB (exI (((n % 255).toNat : Nat) : Int))), (eB 1)]) Try.underlying23 s_ti5 rfl (Nat.le_of_ble_eq_true rfl) (parts_cons (vs := [(eB (exI (((n % 255).toNat : Nat) : Int)))]) (cells_of (v := (eB (exI (((n % 255).toNat : Nat) : Int)))) rfl rfl) (parts_cons (vs := [(eB 1)]) (cells_of (v := (eB 1)) rfl rfl) parts_nil)) rfl) ?_
    rintro _ w25 ⟨o, rfl, g26, a27, o28⟩
    replace a27 : Arr 5 o (([exI (((n % 255).toNat : Nat) : Int), 1] : List UInt8).map eB) w25 := a27
    have l_o : ([exI (((n % 255).toNat : Nat) : Int), 1] : List UInt8).length = 2 := rfl
    have g_oW_o : W.heap.size ≤ o := Nat.le_trans oW.size g26
    replace oW := oW.tail0 o28
    refine wpL.flat [(eN ((n % 255).toNat)), undef, (Value.slice none 0 0), undef, undef, (eI n), (eN ((n % 255).toNat)), (eN ((n % 255).toNat)), (Value.bool (decide (Int.tmod n 255 < 0))), undef, undef, (eN ((n % 255).toNat)), (eB (exI (((n % 255).toNat : Nat) : Int))), (sli o 0 2 2), undef, undef, undef, undef, undef, undef, undef, undef, undef, undef, undef, undef, undef, undef, undef] (by kernel_rfl) ?_
    refine wpL.is (v := (sli o 0 2 2)) rfl (d_assign (v := (sli o 0 2 2)) rfl) ?_
    refine wpL.flat [(eN ((n % 255).toNat)), undef, (Value.slice none 0 0), (sli o 0 2 2), undef, (eI n), (eN ((n % 255).toNat)), (eN ((n % 255).toNat)), (Value.bool (decide (Int.tmod n 255 < 0))), undef, undef, (eN ((n % 255).toNat)), (eB (exI (((n % 255).toNat : Nat) : Int))), (sli o 0 2 2), undef, undef, undef, undef, undef, undef, undef, undef, undef, undef, undef, undef, undef, undef, undef] (by kernel_rfl) ?_
    refine wpL.done ?_
    have a29 := Ow.of_map2 a27 l_o
    have q_oW_r : Fr (some o) none W.heap.size := Fr.new g_oW_o
    refine then_n ?_
    refine wpIn_seq ?_
    refine wpIn_seq ?_
    refine plain ?_
    refine wpL.is (v := (eN ((n % 255).toNat))) rfl (d_move (v := (eN ((n % 255).toNat))) rfl) ?_
    refine wpL.is (v := (eN (2 * ((n % 255).toNat)))) rfl (n_mul (a := 2) (b := ((n % 255).toNat)) rfl rfl (by have := toNat255 n; omega)) ?_
    refine wpL.is (v := (eN ((2 * ((n % 255).toNat)) % 255))) rfl (n_rem (a := (2 * ((n % 255).toNat))) (b := 255) rfl rfl (by decide)) ?_
    refine wpL.flat [(eN ((n % 255).toNat)), undef, (Value.slice none 0 0), (sli o 0 2 2), undef, (eI n), (eN ((n % 255).toNat)), (eN ((n % 255).toNat)), (Value.bool (decide (Int.tmod n 255 < 0))), undef, undef, (eN ((n % 255).toNat)), (eB (exI (((n % 255).toNat : Nat) : Int))), (sli o 0 2 2), (eN ((n % 255).toNat)), (eN (2 * ((n % 255).toNat))), (eN ((2 * ((n % 255).toNat)) % 255)), undef, undef, undef, undef, undef, undef, undef, undef, undef, undef, undef, undef] (by kernel_rfl) ?_
    refine wpL.is (v := (eN ((2 * ((n % 255).toNat)) % 255))) rfl (d_assign (v := (eN ((2 * ((n % 255).toNat)) % 255))) rfl) ?_
    refine wpL.flat [(eN ((n % 255).toNat)), undef, (Value.slice none 0 0), (sli o 0 2 2), (eN ((2 * ((n % 255).toNat)) % 255)), (eI n), (eN ((n % 255).toNat)), (eN ((n % 255).toNat)), (Value.bool (decide (Int.tmod n 255 < 0))), undef, undef, (eN ((n % 255).toNat)), (eB (exI (((n % 255).toNat : Nat) : Int))), (sli o 0 2 2), (eN ((n % 255).toNat)), (eN (2 * ((n % 255).toNat))), (eN ((2 * ((n % 255).toNat)) % 255)), undef, undef, undef, undef, undef, undef, undef, undef, undef, undef, undef, undef] (by kernel_rfl) ?_
    refine wpL.done ?_
    refine fr_eq (l' := [(eN ((n % 255).toNat)), undef, (Value.slice none 0 0), (sli o 0 2 2), (eN (orb (n % 255).toNat 1)), (eI n), (eN ((n % 255).toNat)), (eN ((n % 255).toNat)), (Value.bool (decide (Int.tmod n 255 < 0))), undef, undef, (eN ((n % 255).toNat)), (eB (exI (((n % 255).toNat : Nat) : Int))), (sli o 0 2 2), (eN ((n % 255).toNat)), (eN (2 * ((n % 255).toNat))), (eN ((2 * ((n % 255).toNat)) % 255)), undef, undef, undef, undef, undef, undef, undef, undef, undef, undef, undef, undef]) (show ([(eN ((n % 255).toNat)), undef, (Value.slice none 0 0), (sli o 0 2 2), (eN ((2 * ((n % 255).toNat)) % 255)), (eI n), (eN ((n % 255).toNat)), (eN ((n % 255).toNat)), (Value.bool (decide (Int.tmod n 255 < 0))), undef, undef, (eN ((n % 255).toNat)), (eB (exI (((n % 255).toNat : Nat) : Int))), (sli o 0 2 2), (eN ((n % 255).toNat)), (eN (2 * ((n % 255).toNat))), (eN ((2 * ((n % 255).toNat)) % 255)), undef, undef, undef, undef, undef, undef, undef, undef, undef, undef, undef, undef] : List Value) = [(eN ((n % 255).toNat)), undef, (Value.slice none 0 0), (sli o 0 2 2), (eN (orb (n % 255).toNat 1)), (eI n), (eN ((n % 255).toNat)), (eN ((n % 255).toNat)), (Value.bool (decide (Int.tmod n 255 < 0))), undef, undef, (eN ((n % 255).toNat)), (eB (exI (((n % 255).toNat : Nat) : Int))), (sli o 0 2 2), (eN ((n % 255).toNat)), (eN (2 * ((n % 255).toNat))), (eN ((2 * ((n % 255).toNat)) % 255)), undef, undef, undef, undef, undef, undef, undef, undef, undef, undef, undef, undef] from reslot [(eN ((n % 255).toNat)), undef, (Value.slice none 0 0), (sli o 0 2 2), (eN ((2 * ((n % 255).toNat)) % 255)), (eI n), (eN ((n % 255).toNat)), (eN ((n % 255).toNat)), (Value.bool (decide (Int.tmod n 255 < 0))), undef, undef, (eN ((n % 255).toNat)), (eB (exI (((n % 255).toNat : Nat) : Int))), (sli o 0 2 2), (eN ((n % 255).toNat)), (eN (2 * ((n % 255).toNat))), (eN ((2 * ((n % 255).toNat)) % 255)), undef, undef, undef, undef, undef, undef, undef, undef, undef, undef, undef, undef] 4 (congrArg eN (orb_one (toNat255 n)))) ?_
    refine then_n ?_
    refine wpIn_block ?_
    have h_lts_r := a29.lts
    refine loop2 (fun (s_ : (Nat) × (Option Nat) × (Value)) => match s_ with | ⟨i, bo_r, u_r⟩ => fun (z : Nat → Value) => ([(eN ((n % 255).toNat)), undef, (Value.slice none 0 0), u_r, (eN (orb (n % 255).toNat i)), (eI n), (eN ((n % 255).toNat)), (eN ((n % 255).toNat)), (Value.bool (decide (Int.tmod n 255 < 0))), undef, undef, (eN ((n % 255).toNat)), (eB (exI (((n % 255).toNat : Nat) : Int))), (sli o 0 2 2), (eN ((n % 255).toNat)), (eN (2 * ((n % 255).toNat))), (eN ((2 * ((n % 255).toNat)) % 255)), (z 17), (z 18), (z 19), (z 20), (z 21), (z 22), (z 23), (z 24), (z 25), (z 26), (z 27), undef] : List Value)) (fun (s_ : (Nat) × (Option Nat) × (Value)) => match s_ with | ⟨i, bo_r, u_r⟩ => fun (w_ : World) => (0 < i ∧ i ≤ per (n % 255).toNat) ∧ Only (Orq (some o) No) w25 w_ ∧ Ow 5 1 bo_r u_r (minL ((orbit (n % 255).toNat).take i)).length ((minL ((orbit (n % 255).toNat).take i)).map eB) w_ ∧ Fr bo_r (some o) w25.heap.size) (fun (s_ : (Nat) × (Option Nat) × (Value)) => match s_ with | ⟨i, bo_r, u_r⟩ => 8 - i) ⟨1, (some o), (sli o 0 2 2)⟩ rfl ?_ ?_
    · refine ⟨?_, ?_, ?_, ?_⟩
      · (try dsimp only)
        all_goals (have := per_pos (n % 255).toNat; omega)
      · (try dsimp only)
        all_goals (exact Only.refl _ _)
      · (try dsimp only)
        all_goals (rw [minL_first (toNat255 n), ← exI_nat]; exact a29)
      · (try dsimp only)
        all_goals (exact Fr.same)
    · rintro ⟨i, bo_r, u_r⟩ z w31 ⟨hi, o30, a29, qq_r⟩
      (try dsimp only)
      have tq_oW := oW.size
      replace oW := oW.tail o30 (tl_q q_oW_r (fun _ e => by cases e) tl_no)
      replace q_oW_r := qtr qq_r q_oW_r tq_oW
      have q_o30_r := qq_r
      refine wpIn_seq ?_
      refine wpIn_seq ?_
      refine plain ?_
      refine wpL.is (v := (eN (orb (n % 255).toNat i))) rfl (d_move (v := (eN (orb (n % 255).toNat i))) rfl) ?_
      refine wpL.is (v := (eN ((n % 255).toNat))) rfl (d_move (v := (eN ((n % 255).toNat))) rfl) ?_
      refine wpL.is (v := (Value.bool (!decide ((orb (n % 255).toNat i) = ((n % 255).toNat))))) rfl (n_neq (a := (orb (n % 255).toNat i)) (b := ((n % 255).toNat)) rfl rfl rfl) ?_
      refine wpL.flat [(eN ((n % 255).toNat)), undef, (Value.slice none 0 0), u_r, (eN (orb (n % 255).toNat i)), (eI n), (eN ((n % 255).toNat)), (eN ((n % 255).toNat)), (Value.bool (decide (Int.tmod n 255 < 0))), undef, undef, (eN ((n % 255).toNat)), (eB (exI (((n % 255).toNat : Nat) : Int))), (sli o 0 2 2), (eN ((n % 255).toNat)), (eN (2 * ((n % 255).toNat))), (eN ((2 * ((n % 255).toNat)) % 255)), (eN (orb (n % 255).toNat i)), (eN ((n % 255).toNat)), (Value.bool (!decide ((orb (n % 255).toNat i) = ((n % 255).toNat)))), (z 20), (z 21), (z 22), (z 23), (z 24), (z 25), (z 26), (z 27), undef] (by kernel_rfl) ?_
      refine wpL.done ?_
      refine then_n ?_
      refine cond_un rfl (fun c0 => ?_) (fun c0 => ?_)
      · skip
        refine wpIn_skip ?_
        refine then_n ?_
        refine wpIn_seq ?_
        refine wpIn_block ?_
        have hl_ := minL_take (n % 255).toNat i
        have hp_ := per_le (n % 255).toNat
        refine plain ?_
        refine wpL.is (v := u_r) rfl (d_move (v := u_r) rfl) ?_
        refine wpL.is (v := (eN (orb (n % 255).toNat i))) rfl (d_move (v := (eN (orb (n % 255).toNat i))) rfl) ?_
        refine wpL.op rfl (d_call (xl := [.tmp 24]) (al := [(eN (orb (n % 255).toNat i))]) Try.func15 (by kernel_rfl) rfl rfl rfl (ref2Exp_ok ((orb (n % 255).toNat i : Nat) : Int) _)) ?_
        rintro _ w32 ⟨rfl, o33⟩
        replace a29 := a29.step0 o33
        replace oW := oW.tail0 o33
        replace o30 := o30.tail0 o33
        refine wpL.flat [(eN ((n % 255).toNat)), undef, (Value.slice none 0 0), u_r, (eN (orb (n % 255).toNat i)), (eI n), (eN ((n % 255).toNat)), (eN ((n % 255).toNat)), (Value.bool (decide (Int.tmod n 255 < 0))), undef, undef, (eN ((n % 255).toNat)), (eB (exI (((n % 255).toNat : Nat) : Int))), (sli o 0 2 2), (eN ((n % 255).toNat)), (eN (2 * ((n % 255).toNat))), (eN ((2 * ((n % 255).toNat)) % 255)), (eN (orb (n % 255).toNat i)), (eN ((n % 255).toNat)), (Value.bool (!decide ((orb (n % 255).toNat i) = ((n % 255).toNat)))), (z 20), (z 21), (z 22), u_r, (eN (orb (n % 255).toNat i)), (eB (exI ((orb (n % 255).toNat i : Nat) : Int))), (z 26), (z 27), undef] (by kernel_rfl) ?_
        refine wpL.op rfl (d_buildL (cs := [(eB (exI ((orb (n % 255).toNat i : Nat) : Int))), (eB 1)]) Try.underlying23 s_ti5 rfl (Nat.le_of_ble_eq_true rfl) (parts_cons (vs := [(eB (exI ((orb (n % 255).toNat i : Nat) : Int)))]) (cells_of (v := (eB (exI ((orb (n % 255).toNat i : Nat) : Int)))) rfl rfl) (parts_cons (vs := [(eB 1)]) (cells_of (v := (eB 1)) rfl rfl) parts_nil)) rfl) ?_
        rintro _ w35 ⟨b34, rfl, g36, a37, o38⟩
        replace a37 : Arr 5 b34 (([exI ((orb (n % 255).toNat i : Nat) : Int), 1] : List UInt8).map eB) w35 := a37
        have l_b34 : ([exI ((orb (n % 255).toNat i : Nat) : Int), 1] : List UInt8).length = 2 := rfl
        have nq_r_b34 : ∀ x, bo_r = some x → ¬ x = b34 := fun x hx e => by have := a29.lts x hx; omega
        have g_oW_b34 : W.heap.size ≤ b34 := Nat.le_trans oW.size g36
        have g_o30_b34 : w25.heap.size ≤ b34 := Nat.le_trans o30.size g36
        replace a29 := a29.step0 o38
        replace oW := oW.tail0 o38
        replace o30 := o30.tail0 o38
        refine wpL.op rfl (d_call (xl := [.tmp 23, .tmp 26]) (al := [u_r, (sli b34 0 2 2)]) Try.func24 (by kernel_rfl) rfl rfl rfl (ref3Mul_ok (minL ((orbit (n % 255).toNat).take i)) ([exI ((orb (n % 255).toNat i : Nat) : Int), 1] : List UInt8) u_r (sli b34 0 2 2) _ (Ps.no (a29.seq (X := No) (fun _ _ h => h))) (Ps.no (arr_seq a37 l_b34 (Nat.le_refl _))) (by first | omega | (simp; done) | (simp; omega)) (by first | omega | (simp; done) | (simp; omega)))) ?_
        rintro u41 w39 f42
        obtain ⟨bo43, f42, g44, o40⟩ := f42
        have nq_r2_b34 := nq_new g44 a37.lt
        have nqq_r_r2 := nqq_new g44 a29.lts
        have q_oW_r2 := qnew g44 oW.size
        have q_o30_r2 := qnew g44 o30.size
        replace a37 := a37.step0 o40
        replace a29 := a29.step0 o40
        replace oW := oW.tail0 o40
        replace o30 := o30.tail0 o40
        refine wpL.is (v := u41) rfl (d_assign (v := u41) rfl) ?_
        refine wpL.flat [(eN ((n % 255).toNat)), undef, (Value.slice none 0 0), u41, (eN (orb (n % 255).toNat i)), (eI n), (eN ((n % 255).toNat)), (eN ((n % 255).toNat)), (Value.bool (decide (Int.tmod n 255 < 0))), undef, undef, (eN ((n % 255).toNat)), (eB (exI (((n % 255).toNat : Nat) : Int))), (sli o 0 2 2), (eN ((n % 255).toNat)), (eN (2 * ((n % 255).toNat))), (eN ((2 * ((n % 255).toNat)) % 255)), (eN (orb (n % 255).toNat i)), (eN ((n % 255).toNat)), (Value.bool (!decide ((orb (n % 255).toNat i) = ((n % 255).toNat)))), (z 20), (z 21), (z 22), u_r, (eN (orb (n % 255).toNat i)), (eB (exI ((orb (n % 255).toNat i : Nat) : Int))), (sli b34 0 2 2), u41, undef] (by kernel_rfl) ?_
        refine wpL.done ?_
        refine inb_n (then_n ?_)
        refine plain ?_
        refine wpL.is (v := (eN (orb (n % 255).toNat i))) rfl (d_move (v := (eN (orb (n % 255).toNat i))) rfl) ?_
        refine wpL.is (v := (eN (2 * (orb (n % 255).toNat i)))) rfl (n_mul (a := 2) (b := (orb (n % 255).toNat i)) rfl rfl (by have := orb_lt (n % 255).toNat i; omega)) ?_
        refine wpL.is (v := (eN ((2 * (orb (n % 255).toNat i)) % 255))) rfl (n_rem (a := (2 * (orb (n % 255).toNat i))) (b := 255) rfl rfl (by decide)) ?_
        refine wpL.flat [(eN ((n % 255).toNat)), undef, (Value.slice none 0 0), u41, (eN (orb (n % 255).toNat i)), (eI n), (eN ((n % 255).toNat)), (eN ((n % 255).toNat)), (Value.bool (decide (Int.tmod n 255 < 0))), undef, undef, (eN ((n % 255).toNat)), (eB (exI (((n % 255).toNat : Nat) : Int))), (sli o 0 2 2), (eN ((n % 255).toNat)), (eN (2 * ((n % 255).toNat))), (eN ((2 * ((n % 255).toNat)) % 255)), (eN (orb (n % 255).toNat i)), (eN ((n % 255).toNat)), (Value.bool (!decide ((orb (n % 255).toNat i) = ((n % 255).toNat)))), (eN (orb (n % 255).toNat i)), (eN (2 * (orb (n % 255).toNat i))), (eN ((2 * (orb (n % 255).toNat i)) % 255)), u_r, (eN (orb (n % 255).toNat i)), (eB (exI ((orb (n % 255).toNat i : Nat) : Int))), (sli b34 0 2 2), u41, undef] (by kernel_rfl) ?_
        refine wpL.is (v := (eN ((2 * (orb (n % 255).toNat i)) % 255))) rfl (d_assign (v := (eN ((2 * (orb (n % 255).toNat i)) % 255))) rfl) ?_
        refine wpL.flat [(eN ((n % 255).toNat)), undef, (Value.slice none 0 0), u41, (eN ((2 * (orb (n % 255).toNat i)) % 255)), (eI n), (eN ((n % 255).toNat)), (eN ((n % 255).toNat)), (Value.bool (decide (Int.tmod n 255 < 0))), undef, undef, (eN ((n % 255).toNat)), (eB (exI (((n % 255).toNat : Nat) : Int))), (sli o 0 2 2), (eN ((n % 255).toNat)), (eN (2 * ((n % 255).toNat))), (eN ((2 * ((n % 255).toNat)) % 255)), (eN (orb (n % 255).toNat i)), (eN ((n % 255).toNat)), (Value.bool (!decide ((orb (n % 255).toNat i) = ((n % 255).toNat)))), (eN (orb (n % 255).toNat i)), (eN (2 * (orb (n % 255).toNat i))), (eN ((2 * (orb (n % 255).toNat i)) % 255)), u_r, (eN (orb (n % 255).toNat i)), (eB (exI ((orb (n % 255).toNat i : Nat) : Int))), (sli b34 0 2 2), u41, undef] (by kernel_rfl) ?_
        refine wpL.done ?_
        refine then_n ?_
        refine ⟨[(eN ((n % 255).toNat)), undef, (Value.slice none 0 0), u41, (eN (orb (n % 255).toNat (i + 1))), (eI n), (eN ((n % 255).toNat)), (eN ((n % 255).toNat)), (Value.bool (decide (Int.tmod n 255 < 0))), undef, undef, (eN ((n % 255).toNat)), (eB (exI (((n % 255).toNat : Nat) : Int))), (sli o 0 2 2), (eN ((n % 255).toNat)), (eN (2 * ((n % 255).toNat))), (eN ((2 * ((n % 255).toNat)) % 255)), (eN (orb (n % 255).toNat i)), (eN ((n % 255).toNat)), (Value.bool (!decide ((orb (n % 255).toNat i) = ((n % 255).toNat)))), (eN (orb (n % 255).toNat i)), (eN (2 * (orb (n % 255).toNat i))), (eN ((2 * (orb (n % 255).toNat i)) % 255)), u_r, (eN (orb (n % 255).toNat i)), (eB (exI ((orb (n % 255).toNat i : Nat) : Int))), (sli b34 0 2 2), u41, undef], ⟨i + 1, bo43, u41⟩, (congrArg (fun l_ => fr l_ _) (show ([(eN ((n % 255).toNat)), undef, (Value.slice none 0 0), u41, (eN ((2 * (orb (n % 255).toNat i)) % 255)), (eI n), (eN ((n % 255).toNat)), (eN ((n % 255).toNat)), (Value.bool (decide (Int.tmod n 255 < 0))), undef, undef, (eN ((n % 255).toNat)), (eB (exI (((n % 255).toNat : Nat) : Int))), (sli o 0 2 2), (eN ((n % 255).toNat)), (eN (2 * ((n % 255).toNat))), (eN ((2 * ((n % 255).toNat)) % 255)), (eN (orb (n % 255).toNat i)), (eN ((n % 255).toNat)), (Value.bool (!decide ((orb (n % 255).toNat i) = ((n % 255).toNat)))), (eN (orb (n % 255).toNat i)), (eN (2 * (orb (n % 255).toNat i))), (eN ((2 * (orb (n % 255).toNat i)) % 255)), u_r, (eN (orb (n % 255).toNat i)), (eB (exI ((orb (n % 255).toNat i : Nat) : Int))), (sli b34 0 2 2), u41, undef] : List Value) = [(eN ((n % 255).toNat)), undef, (Value.slice none 0 0), u41, (eN (orb (n % 255).toNat (i + 1))), (eI n), (eN ((n % 255).toNat)), (eN ((n % 255).toNat)), (Value.bool (decide (Int.tmod n 255 < 0))), undef, undef, (eN ((n % 255).toNat)), (eB (exI (((n % 255).toNat : Nat) : Int))), (sli o 0 2 2), (eN ((n % 255).toNat)), (eN (2 * ((n % 255).toNat))), (eN ((2 * ((n % 255).toNat)) % 255)), (eN (orb (n % 255).toNat i)), (eN ((n % 255).toNat)), (Value.bool (!decide ((orb (n % 255).toNat i) = ((n % 255).toNat)))), (eN (orb (n % 255).toNat i)), (eN (2 * (orb (n % 255).toNat i))), (eN ((2 * (orb (n % 255).toNat i)) % 255)), u_r, (eN (orb (n % 255).toNat i)), (eB (exI ((orb (n % 255).toNat i : Nat) : Int))), (sli b34 0 2 2), u41, undef] from reslot [(eN ((n % 255).toNat)), undef, (Value.slice none 0 0), u41, (eN ((2 * (orb (n % 255).toNat i)) % 255)), (eI n), (eN ((n % 255).toNat)), (eN ((n % 255).toNat)), (Value.bool (decide (Int.tmod n 255 < 0))), undef, undef, (eN ((n % 255).toNat)), (eB (exI (((n % 255).toNat : Nat) : Int))), (sli o 0 2 2), (eN ((n % 255).toNat)), (eN (2 * ((n % 255).toNat))), (eN ((2 * ((n % 255).toNat)) % 255)), (eN (orb (n % 255).toNat i)), (eN ((n % 255).toNat)), (Value.bool (!decide ((orb (n % 255).toNat i) = ((n % 255).toNat)))), (eN (orb (n % 255).toNat i)), (eN (2 * (orb (n % 255).toNat i))), (eN ((2 * (orb (n % 255).toNat i)) % 255)), u_r, (eN (orb (n % 255).toNat i)), (eB (exI ((orb (n % 255).toNat i : Nat) : Int))), (sli b34 0 2 2), u41, undef] 4 (congrArg eN (orb_succ (n % 255).toNat i)))), rfl, ⟨?_, ?_, ?_, ?_⟩, ?_⟩
        · (try dsimp only)
          all_goals (exact ref3min_step n hi c0)
        · (try dsimp only)
          all_goals (exact o30)
        · (try dsimp only)
          all_goals (rw [← minL_next n hi c0, ← exI_nat]; exact f42)
        · (try dsimp only)
          all_goals (exact fun c hc => (q_o30_r2 c hc).elim (fun h => by cases h) .inr)
        · (try dsimp only)
          all_goals (have := ref3min_step n hi c0; omega)
      · skip
        refine wpIn_exit ?_
        refine then_x (then_x (inb_e ?_))
        refine then_n ?_
        refine wpIn_seq ?_
        refine plain ?_
        refine wpL.is (v := u_r) rfl (d_move (v := u_r) rfl) ?_
        refine wpL.is (v := u_r) rfl (d_assign (v := u_r) rfl) ?_
        refine wpL.flat [(eN ((n % 255).toNat)), undef, u_r, u_r, (eN (orb (n % 255).toNat i)), (eI n), (eN ((n % 255).toNat)), (eN ((n % 255).toNat)), (Value.bool (decide (Int.tmod n 255 < 0))), undef, undef, (eN ((n % 255).toNat)), (eB (exI (((n % 255).toNat : Nat) : Int))), (sli o 0 2 2), (eN ((n % 255).toNat)), (eN (2 * ((n % 255).toNat))), (eN ((2 * ((n % 255).toNat)) % 255)), (eN (orb (n % 255).toNat i)), (eN ((n % 255).toNat)), (Value.bool (!decide ((orb (n % 255).toNat i) = ((n % 255).toNat)))), (z 20), (z 21), (z 22), (z 23), (z 24), (z 25), (z 26), (z 27), u_r] (by kernel_rfl) ?_
        refine wpL.done ?_
        refine then_n ?_
        refine wpIn_ret ?_
        refine leave0 (v := u_r) (res1 Try.results12 rfl) ?_
        exact ROw.mk_ a29 (by rw [ref3min_done n hi c0]) q_oW_r oW

end Go.Proofs.YtphlhejccgbmfaaF
