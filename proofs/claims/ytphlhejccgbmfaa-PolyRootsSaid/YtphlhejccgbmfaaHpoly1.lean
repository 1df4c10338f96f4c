import Derived.Test.YtphlhejccgbmfaaFk
import Derived.Test.YtphlhejccgbmfaaTy
import Derived.Test.YtphlhejccgbmfaaHgf
import Derived.Test.YtphlhejccgbmfaaMq
set_option linter.unusedVariables false
set_option linter.unusedSimpArgs false
namespace Go.Proofs.YtphlhejccgbmfaaF
open Go Go.Shelf Go.Proofs.YtphlhejccgbmfaaS Ram

theorem tl_stay' {l : List UInt8} {n : Nat} (h : 0 < n) (h2 : ¬ l.getD (n - 1) 0 = 0) : tl l n = n := by
  cases n with
  | zero => omega
  | succ n => exact tl_stay h2
theorem tl_go' {l : List UInt8} {n : Nat} (h : 0 < n) (h2 : l.getD (n - 1) 0 = 0) : tl l n = tl l (n - 1) := by
  cases n with
  | zero => omega
  | succ n => exact tl_go h2
set_option maxRecDepth 20000 in
set_option maxHeartbeats 1000000 in
theorem trimmed_ok (la : List UInt8) (u1 : Value) (W : World) (h1 : Ps No (Seq kB la u1) W) (g1 : la.length ≤ 8388608) :
    CW Try.prog 29 #[(Value.agg #[u1])] W (Rt (ROw 5 eB (trimL la) W)) := by
  have oW : Only No W W := Only.refl _ _
  refine enter (al := [(Value.agg #[u1])]) (k := 26) (l := [(Value.agg #[u1]), undef, undef, undef, undef, undef, undef, undef, undef, undef, undef, undef, undef, undef, undef, undef, undef, undef, undef, undef, undef, undef, undef, undef, undef, undef, undef]) Try.func29 rfl Try.ntmps29 rfl rfl ?_
  refine wpIn_seq ?_
  refine plain ?_
  refine wpL.op rfl (d_box rfl rfl) ?_
  rintro _ w2 ⟨b1, rfl, g3, a4, o5⟩
  have g_oW_b1 : W.heap.size ≤ b1 := Nat.le_trans oW.size g3
  replace h1 := h1.new o5 g3
  replace oW := oW.tail0 o5
  refine wpL.is (v := (Value.slice none 0 0)) rfl (d_assign (v := (Value.slice none 0 0)) rfl) ?_
  refine wpL.flat [(Value.agg #[u1]), (ptr b1 0), (Value.slice none 0 0), undef, undef, undef, undef, undef, undef, undef, undef, undef, undef, undef, undef, undef, undef, undef, undef, undef, undef, undef, undef, undef, undef, undef, undef] (by kernel_rfl) ?_
  refine wpL.done ?_
  refine then_n ?_
  refine wpIn_seq ?_
  refine plain ?_
  refine wpL.is (v := (eB 0)) rfl (d_assign (v := (eB 0)) rfl) ?_
  refine wpL.flat [(Value.agg #[u1]), (ptr b1 0), (Value.slice none 0 0), (eB 0), undef, undef, undef, undef, undef, undef, undef, undef, undef, undef, undef, undef, undef, undef, undef, undef, undef, undef, undef, undef, undef, undef, undef] (by kernel_rfl) ?_
  refine wpL.done ?_
  refine then_n ?_
  refine wpIn_seq ?_
  refine plain ?_
  refine wpL.is (v := (ptr b1 0)) rfl (d_fieldAddr (j := 0) Try.underlying45 rfl s_ti23 (by decide) rfl rfl) ?_
  refine wpL.is (v := u1) rfl (d_load (v := u1) ⟨_, Try.underlying23, rfl⟩ rfl a4 rfl) ?_
  refine wpL.is (v := (eN la.length)) rfl (d_lenS rfl Try.underlying23 rfl h1) ?_
  refine wpL.flat [(Value.agg #[u1]), (ptr b1 0), (Value.slice none 0 0), (eB 0), undef, (ptr b1 0), u1, (eN la.length), undef, undef, undef, undef, undef, undef, undef, undef, undef, undef, undef, undef, undef, undef, undef, undef, undef, undef, undef] (by kernel_rfl) ?_
  refine wpL.is (v := (eN la.length)) rfl (d_assign (v := (eN la.length)) rfl) ?_
  refine wpL.flat [(Value.agg #[u1]), (ptr b1 0), (Value.slice none 0 0), (eB 0), (eN la.length), (ptr b1 0), u1, (eN la.length), undef, undef, undef, undef, undef, undef, undef, undef, undef, undef, undef, undef, undef, undef, undef, undef, undef, undef, undef] (by kernel_rfl) ?_
  refine wpL.done ?_
  refine then_n ?_
  refine wpIn_seq ?_
  refine wpIn_block ?_
  refine loop2 (fun (n : (Nat)) => fun (z : Nat → Value) => ([(Value.agg #[u1]), (ptr b1 0), (Value.slice none 0 0), (eB 0), (eN n), (ptr b1 0), u1, (eN la.length), (z 8), (z 9), (z 10), (z 11), (z 12), (z 13), (z 14), (z 15), (z 16), (z 17), (z 18), (z 19), (z 20), (z 21), undef, undef, undef, undef, undef] : List Value)) (fun (n : (Nat)) => fun (w_ : World) => (n ≤ la.length) ∧ (tl la n = tlen la) ∧ Only (Or1 b1 No) w2 w_ ∧ Arr 45 b1 [u1] w_) (fun (n : (Nat)) => n) la.length rfl ?_ ?_
  · refine ⟨?_, ?_, ?_, ?_⟩
    · (try dsimp only)
      all_goals (exact Nat.le_refl _)
    · (try dsimp only)
      all_goals (exact rfl)
    · (try dsimp only)
      all_goals (exact Only.refl _ _)
    · (try dsimp only)
      all_goals (exact a4)
  · rintro n z w7 ⟨hn, hI, o6, a4⟩
    (try dsimp only)
    replace h1 := h1.step o6 (or1_mono no_any)
    replace oW := oW.tail o6 (tl_new g_oW_b1 tl_no)
    refine wpIn_seq ?_
    refine wpIn_seq ?_
    by_cases n0 : 0 < n
    · skip
      refine plain ?_
      refine wpL.is (v := (eN n)) rfl (d_move (v := (eN n)) rfl) ?_
      refine wpL.is (v := (Value.bool true)) rfl (n_gtr (a := n) (b := 0) rfl rfl (decide_eq_true n0)) ?_
      refine wpL.is (v := (Value.bool true)) rfl (d_move (v := (Value.bool true)) rfl) ?_
      refine wpL.flat [(Value.agg #[u1]), (ptr b1 0), (Value.slice none 0 0), (eB 0), (eN n), (ptr b1 0), u1, (eN la.length), (eN n), (Value.bool true), (Value.bool true), (z 11), (z 12), (z 13), (z 14), (z 15), (z 16), (z 17), (z 18), (z 19), (z 20), (z 21), undef, undef, undef, undef, undef] (by kernel_rfl) ?_
      refine wpL.onis (v := (ptr b1 0)) rfl rfl rfl (Nat.le_of_ble_eq_true rfl) rfl (d_fieldAddr (j := 0) Try.underlying45 rfl s_ti23 (by decide) rfl rfl) ?_
      refine wpL.onis (v := u1) rfl rfl rfl (Nat.le_of_ble_eq_true rfl) rfl (d_load (v := u1) ⟨_, Try.underlying23, rfl⟩ rfl a4 rfl) ?_
      refine wpL.onis (v := (eN n)) rfl rfl rfl (Nat.le_of_ble_eq_true rfl) rfl (d_move (v := (eN n)) rfl) ?_
      refine wpL.flat [(Value.agg #[u1]), (ptr b1 0), (Value.slice none 0 0), (eB 0), (eN n), (ptr b1 0), u1, (eN la.length), (eN n), (Value.bool true), (Value.bool true), (ptr b1 0), u1, (eN n), (z 14), (z 15), (z 16), (z 17), (z 18), (z 19), (z 20), (z 21), undef, undef, undef, undef, undef] (by kernel_rfl) ?_
      refine wpL.onis (v := (eN (n - 1))) rfl rfl rfl (Nat.le_of_ble_eq_true rfl) rfl (n_sub (a := n) (b := 1) rfl rfl (by omega) (by omega)) ?_
      refine wpL.on rfl rfl rfl (Nat.le_of_ble_eq_true rfl) rfl (d_indexS (q := kB) (xs := la) (v := (la.getD (n - 1) 0)) Try.underlying23 s_ti5 rfl h1 (show _ = Value.int _ ((n - 1 : Nat) : Int) from rfl) (by omega) (g_at (by first | omega | (simp; done) | (simp; omega)))) ?_
      rintro u8 _ ⟨f9, rfl⟩
      refine wpL.onis (v := (eB (la.getD (n - 1) 0))) rfl rfl rfl (Nat.le_of_ble_eq_true rfl) rfl (d_loadAt (enc := eB) (v := (la.getD (n - 1) 0)) ⟨_, Try.underlying5, rfl⟩ rfl f9) ?_
      refine wpL.flat [(Value.agg #[u1]), (ptr b1 0), (Value.slice none 0 0), (eB 0), (eN n), (ptr b1 0), u1, (eN la.length), (eN n), (Value.bool true), (Value.bool true), (ptr b1 0), u1, (eN n), (eN (n - 1)), u8, (eB (la.getD (n - 1) 0)), (z 17), (z 18), (z 19), (z 20), (z 21), undef, undef, undef, undef, undef] (by kernel_rfl) ?_
      refine wpL.onis (v := (eB 0)) rfl rfl rfl (Nat.le_of_ble_eq_true rfl) rfl (d_move (v := (eB 0)) rfl) ?_
      refine wpL.onis (v := (Value.bool (decide (((la.getD (n - 1) 0) : UInt8) = (0 : UInt8))))) rfl rfl rfl (Nat.le_of_ble_eq_true rfl) rfl (b_eql (c := (la.getD (n - 1) 0)) (e := 0) rfl rfl rfl) ?_
      refine wpL.is (v := (Value.bool (decide (((la.getD (n - 1) 0) : UInt8) = (0 : UInt8))))) rfl (d_pick (b := true) (v := (Value.bool (decide (((la.getD (n - 1) 0) : UInt8) = (0 : UInt8))))) rfl rfl) ?_
      refine wpL.flat [(Value.agg #[u1]), (ptr b1 0), (Value.slice none 0 0), (eB 0), (eN n), (ptr b1 0), u1, (eN la.length), (eN n), (Value.bool true), (Value.bool true), (ptr b1 0), u1, (eN n), (eN (n - 1)), u8, (eB (la.getD (n - 1) 0)), (eB 0), (Value.bool (decide (((la.getD (n - 1) 0) : UInt8) = (0 : UInt8)))), (Value.bool (decide (((la.getD (n - 1) 0) : UInt8) = (0 : UInt8)))), (z 20), (z 21), undef, undef, undef, undef, undef] (by kernel_rfl) ?_
      refine wpL.done ?_
      refine then_n ?_
      refine cond_if rfl (fun k1 => ?_) (fun k1 => ?_)
      · skip
        refine wpIn_skip ?_
        refine then_n ?_
        refine wpIn_block ?_
        refine plain ?_
        refine wpL.is (v := (eN n)) rfl (d_move (v := (eN n)) rfl) ?_
        refine wpL.is (v := (eN (n - 1))) rfl (n_sub (a := n) (b := 1) rfl rfl (by omega) (by omega)) ?_
        refine wpL.is (v := (eN (n - 1))) rfl (d_assign (v := (eN (n - 1))) rfl) ?_
        refine wpL.flat [(Value.agg #[u1]), (ptr b1 0), (Value.slice none 0 0), (eB 0), (eN (n - 1)), (ptr b1 0), u1, (eN la.length), (eN n), (Value.bool true), (Value.bool true), (ptr b1 0), u1, (eN n), (eN (n - 1)), u8, (eB (la.getD (n - 1) 0)), (eB 0), (Value.bool (decide (((la.getD (n - 1) 0) : UInt8) = (0 : UInt8)))), (Value.bool (decide (((la.getD (n - 1) 0) : UInt8) = (0 : UInt8)))), (eN n), (eN (n - 1)), undef, undef, undef, undef, undef] (by kernel_rfl) ?_
        refine wpL.done ?_
        refine inb_n (then_n ?_)
        refine ⟨_, (n - 1), rfl, rfl, ⟨?_, ?_, ?_, ?_⟩, ?_⟩
        · (try dsimp only)
          all_goals (omega)
        · (try dsimp only)
          all_goals (rw [← hI, tl_go' n0 k1])
        · (try dsimp only)
          all_goals (exact o6)
        · (try dsimp only)
          all_goals (exact a4)
        · (try dsimp only)
          all_goals (omega)
      · skip
        refine wpIn_exit ?_
        refine then_x (then_x (inb_e ?_))
        refine then_n ?_
        refine wpIn_seq ?_
        refine plain ?_
        refine wpL.is (v := (ptr b1 0)) rfl (d_fieldAddr (j := 0) Try.underlying45 rfl s_ti23 (by decide) rfl rfl) ?_
        refine wpL.is (v := u1) rfl (d_load (v := u1) ⟨_, Try.underlying23, rfl⟩ rfl a4 rfl) ?_
        refine wpL.is (v := (eN n)) rfl (d_move (v := (eN n)) rfl) ?_
        refine wpL.flat [(Value.agg #[u1]), (ptr b1 0), (Value.slice none 0 0), (eB 0), (eN n), (ptr b1 0), u1, (eN la.length), (eN n), (Value.bool true), (Value.bool true), (ptr b1 0), u1, (eN n), (eN (n - 1)), u8, (eB (la.getD (n - 1) 0)), (eB 0), (Value.bool (decide (((la.getD (n - 1) 0) : UInt8) = (0 : UInt8)))), (Value.bool (decide (((la.getD (n - 1) 0) : UInt8) = (0 : UInt8)))), (z 20), (z 21), (ptr b1 0), u1, (eN n), undef, undef] (by kernel_rfl) ?_
        refine wpL.op rfl (d_sliceS (xs := la) (ys := (la.take n)) (l := 0) (h := n) Try.underlying23 s_ti5 rfl h1 Bd.none (Bd.some (l := n) (k := .i64) rfl) (by omega) (by omega) (by simp)) ?_
        rintro u10 _ ⟨f11, rfl⟩
        refine wpL.op rfl (d_append Try.underlying23 Try.underlying23 s_ti5 rfl rfl rfl (Ow.nil 5 1 _) (SrcV.of_seq f11 (fun _ => rfl)) (by rw [List.length_take]; omega) (by rw [List.length_take]; omega) rfl) ?_
        rintro u12 w13 ⟨bo14, a15, o16, q17⟩
        replace h1 := h1.qnone
        replace f9 := f9.qnone
        replace f11 := f11.qnone
        have nq_row18_b1 : ∀ x, (none : Option Nat) = some x → ¬ x = b1 := fun x e => by cases e
        have q_oW_row18 : Fr none none W.heap.size := Fr.none
        have q_o6_row18 : Fr none none w2.heap.size := Fr.none
        replace a15 : Ow 5 1 bo14 u12 (la.take n).length ((la.take n).map eB) w13 := by simpa using a15
        replace h1 := h1.gr o16 (fun k e => (.inl e)) (xx_re (Fr.of_or q17) (xx_or1 xx_id))
        replace f9 := f9.gr o16 (fun k e => (.inl e)) (xx_re (Fr.of_or q17) (xx_or1 xx_id))
        replace f11 := f11.gr o16 (fun k e => (.inl e)) (xx_re (Fr.of_or q17) (xx_or1 xx_id))
        have nq2 := nqs nq_row18_b1 (Fr.of_or q17) a4.lt
        replace a4 := a4.step o16 (fun e => nq_row18_b1 _ e rfl)
        replace nq_row18_b1 := nq2
        clear nq2
        have tq := oW.size
        replace oW := oW.tailr o16 q_oW_row18 (fun _ e => by cases e)
        replace q_oW_row18 := qtr (Fr.of_or q17) q_oW_row18 tq
        clear tq
        have tq := o6.size
        replace o6 := o6.tailr o16 q_o6_row18 (fun _ e => by cases e)
        replace q_o6_row18 := qtr (Fr.of_or q17) q_o6_row18 tq
        clear tq
        refine wpL.is (v := u12) rfl (d_assign (v := u12) rfl) ?_
        refine wpL.flat [(Value.agg #[u1]), (ptr b1 0), u12, (eB 0), (eN n), (ptr b1 0), u1, (eN la.length), (eN n), (Value.bool true), (Value.bool true), (ptr b1 0), u1, (eN n), (eN (n - 1)), u8, (eB (la.getD (n - 1) 0)), (eB 0), (Value.bool (decide (((la.getD (n - 1) 0) : UInt8) = (0 : UInt8)))), (Value.bool (decide (((la.getD (n - 1) 0) : UInt8) = (0 : UInt8)))), (z 20), (z 21), (ptr b1 0), u1, (eN n), u10, u12] (by kernel_rfl) ?_
        refine wpL.done ?_
        refine then_n ?_
        refine wpIn_ret ?_
        refine leave0 (v := u12) (res1 Try.results29 rfl) ?_
        rw [tl_stay' n0 k1] at hI
        exact ROw.mk_ a15 (by rw [hI]; rfl) q_oW_row18 oW
    · skip
      refine plain ?_
      refine wpL.is (v := (eN n)) rfl (d_move (v := (eN n)) rfl) ?_
      refine wpL.is (v := (Value.bool false)) rfl (n_gtr (a := n) (b := 0) rfl rfl (decide_eq_false n0)) ?_
      refine wpL.is (v := (Value.bool false)) rfl (d_move (v := (Value.bool false)) rfl) ?_
      refine wpL.flat [(Value.agg #[u1]), (ptr b1 0), (Value.slice none 0 0), (eB 0), (eN n), (ptr b1 0), u1, (eN la.length), (eN n), (Value.bool false), (Value.bool false), (z 11), (z 12), (z 13), (z 14), (z 15), (z 16), (z 17), (z 18), (z 19), (z 20), (z 21), undef, undef, undef, undef, undef] (by kernel_rfl) ?_
      refine wpL.off rfl rfl rfl (Nat.le_of_ble_eq_true rfl) rfl ?_
      refine wpL.off rfl rfl rfl (Nat.le_of_ble_eq_true rfl) rfl ?_
      refine wpL.flat [(Value.agg #[u1]), (ptr b1 0), (Value.slice none 0 0), (eB 0), (eN n), (ptr b1 0), u1, (eN la.length), (eN n), (Value.bool false), (Value.bool false), undef, undef, (z 13), (z 14), (z 15), (z 16), (z 17), (z 18), (z 19), (z 20), (z 21), undef, undef, undef, undef, undef] (by kernel_rfl) ?_
      refine wpL.off rfl rfl rfl (Nat.le_of_ble_eq_true rfl) rfl ?_
      refine wpL.off rfl rfl rfl (Nat.le_of_ble_eq_true rfl) rfl ?_
      refine wpL.off rfl rfl rfl (Nat.le_of_ble_eq_true rfl) rfl ?_
      refine wpL.flat [(Value.agg #[u1]), (ptr b1 0), (Value.slice none 0 0), (eB 0), (eN n), (ptr b1 0), u1, (eN la.length), (eN n), (Value.bool false), (Value.bool false), undef, undef, undef, undef, undef, (z 16), (z 17), (z 18), (z 19), (z 20), (z 21), undef, undef, undef, undef, undef] (by kernel_rfl) ?_
      refine wpL.off rfl rfl rfl (Nat.le_of_ble_eq_true rfl) rfl ?_
      refine wpL.off rfl rfl rfl (Nat.le_of_ble_eq_true rfl) rfl ?_
      refine wpL.off rfl rfl rfl (Nat.le_of_ble_eq_true rfl) rfl ?_
      refine wpL.is (v := (Value.bool false)) rfl (d_pick (b := false) (v := (Value.bool false)) rfl rfl) ?_
      refine wpL.flat [(Value.agg #[u1]), (ptr b1 0), (Value.slice none 0 0), (eB 0), (eN n), (ptr b1 0), u1, (eN la.length), (eN n), (Value.bool false), (Value.bool false), undef, undef, undef, undef, undef, undef, undef, undef, (Value.bool false), (z 20), (z 21), undef, undef, undef, undef, undef] (by kernel_rfl) ?_
      refine wpL.done ?_
      refine then_n ?_
      refine cond_f rfl ?_
      refine wpIn_exit ?_
      refine then_x (then_x (inb_e ?_))
      refine then_n ?_
      refine wpIn_seq ?_
      refine plain ?_
      refine wpL.is (v := (ptr b1 0)) rfl (d_fieldAddr (j := 0) Try.underlying45 rfl s_ti23 (by decide) rfl rfl) ?_
      refine wpL.is (v := u1) rfl (d_load (v := u1) ⟨_, Try.underlying23, rfl⟩ rfl a4 rfl) ?_
      refine wpL.is (v := (eN n)) rfl (d_move (v := (eN n)) rfl) ?_
      refine wpL.flat [(Value.agg #[u1]), (ptr b1 0), (Value.slice none 0 0), (eB 0), (eN n), (ptr b1 0), u1, (eN la.length), (eN n), (Value.bool false), (Value.bool false), undef, undef, undef, undef, undef, undef, undef, undef, (Value.bool false), (z 20), (z 21), (ptr b1 0), u1, (eN n), undef, undef] (by kernel_rfl) ?_
      refine wpL.op rfl (d_sliceS (xs := la) (ys := (la.take n)) (l := 0) (h := n) Try.underlying23 s_ti5 rfl h1 Bd.none (Bd.some (l := n) (k := .i64) rfl) (by omega) (by omega) (by simp)) ?_
      rintro u19 _ ⟨f20, rfl⟩
      refine wpL.op rfl (d_append Try.underlying23 Try.underlying23 s_ti5 rfl rfl rfl (Ow.nil 5 1 _) (SrcV.of_seq f20 (fun _ => rfl)) (by rw [List.length_take]; omega) (by rw [List.length_take]; omega) rfl) ?_
      rintro u21 w22 ⟨bo23, a24, o25, q26⟩
      replace h1 := h1.qnone
      replace f20 := f20.qnone
      have nq_row27_b1 : ∀ x, (none : Option Nat) = some x → ¬ x = b1 := fun x e => by cases e
      have q_oW_row27 : Fr none none W.heap.size := Fr.none
      have q_o6_row27 : Fr none none w2.heap.size := Fr.none
      replace a24 : Ow 5 1 bo23 u21 (la.take n).length ((la.take n).map eB) w22 := by simpa using a24
      replace h1 := h1.gr o25 (fun k e => (.inl e)) (xx_re (Fr.of_or q26) (xx_or1 xx_id))
      replace f20 := f20.gr o25 (fun k e => (.inl e)) (xx_re (Fr.of_or q26) (xx_or1 xx_id))
      have nq2 := nqs nq_row27_b1 (Fr.of_or q26) a4.lt
      replace a4 := a4.step o25 (fun e => nq_row27_b1 _ e rfl)
      replace nq_row27_b1 := nq2
      clear nq2
      have tq := oW.size
      replace oW := oW.tailr o25 q_oW_row27 (fun _ e => by cases e)
      replace q_oW_row27 := qtr (Fr.of_or q26) q_oW_row27 tq
      clear tq
      have tq := o6.size
      replace o6 := o6.tailr o25 q_o6_row27 (fun _ e => by cases e)
      replace q_o6_row27 := qtr (Fr.of_or q26) q_o6_row27 tq
      clear tq
      refine wpL.is (v := u21) rfl (d_assign (v := u21) rfl) ?_
      refine wpL.flat [(Value.agg #[u1]), (ptr b1 0), u21, (eB 0), (eN n), (ptr b1 0), u1, (eN la.length), (eN n), (Value.bool false), (Value.bool false), undef, undef, undef, undef, undef, undef, undef, undef, (Value.bool false), (z 20), (z 21), (ptr b1 0), u1, (eN n), u19, u21] (by kernel_rfl) ?_
      refine wpL.done ?_
      refine then_n ?_
      refine wpIn_ret ?_
      refine leave0 (v := u21) (res1 Try.results29 rfl) ?_
      obtain rfl : n = 0 := by omega
      rw [show tl la 0 = 0 from rfl] at hI
      exact ROw.mk_ a24 (by rw [hI]; rfl) q_oW_row27 oW

set_option maxRecDepth 20000 in
set_option maxHeartbeats 1000000 in
theorem trim_ok (la : List UInt8) (u1 : Value) (W : World) (h1 : Ps No (Seq kB la u1) W) (g1 : la.length ≤ 8388608) :
    CW Try.prog 18 #[u1] W (Rt (ROw 5 eB (trimL la) W)) := by
  have oW : Only No W W := Only.refl _ _
  refine enter (al := [u1]) (k := 5) (l := [u1, undef, undef, undef, undef, undef]) Try.func18 rfl Try.ntmps18 rfl rfl ?_
  refine wpIn_seq ?_
  refine plain ?_
  refine wpL.is (v := (Value.slice none 0 0)) rfl (d_assign (v := (Value.slice none 0 0)) rfl) ?_
  refine wpL.flat [u1, undef, (Value.slice none 0 0), undef, undef, undef] (by kernel_rfl) ?_
  refine wpL.done ?_
  refine then_n ?_
  refine wpIn_seq ?_
  refine plain ?_
  refine wpL.is (v := u1) rfl (d_move (v := u1) rfl) ?_
  refine wpL.is (v := (Value.agg #[u1])) rfl (d_buildS (pl := [(0, 1)]) (zs := [(Value.slice none 0 0)]) (cs := [u1]) Try.underlying45 s_ti45 ⟨_, _, _, _, rfl, s_ti23, rfl⟩ rfl (parts_cons (vs := [u1]) (cells_of (v := u1) rfl (Seq.cells h1)) parts_nil) rfl) ?_
  refine wpL.op rfl (d_call (xl := [.tmp 4]) (al := [(Value.agg #[u1])]) Try.func29 (by kernel_rfl) rfl rfl rfl (trimmed_ok la u1 _ (Ps.no h1) (by first | omega | (simp; done) | (simp; omega)))) ?_
  rintro u3 w1 f4
  obtain ⟨bo5, f4, g6, o2⟩ := f4
  have q_oW_r := qnew g6 oW.size
  replace h1 := h1.newq o2 g6
  replace oW := oW.tail0 o2
  refine wpL.flat [u1, undef, (Value.slice none 0 0), u1, (Value.agg #[u1]), u3] (by kernel_rfl) ?_
  refine wpL.is (v := u3) rfl (d_assign (v := u3) rfl) ?_
  refine wpL.flat [u1, undef, u3, u1, (Value.agg #[u1]), u3] (by kernel_rfl) ?_
  refine wpL.done ?_
  refine then_n ?_
  refine wpIn_ret ?_
  refine leave0 (v := u3) (res1 Try.results18 rfl) ?_
  exact ROw.mk_ f4 rfl q_oW_r oW

set_option maxRecDepth 20000 in
set_option maxHeartbeats 1000000 in
theorem mul_ok (la lb : List UInt8) (u1 u2 : Value) (W : World) (h1 : Ps No (Seq kB la u1) W) (h2 : Ps No (Seq kB lb u2) W) (g1 : la.length ≤ 1048576) (g2 : lb.length ≤ 1048576) :
    CW Try.prog 16 #[u1, u2] W (Rt (ROw 5 eB (mulP la lb) W)) := by
  have oW : Only No W W := Only.refl _ _
  refine enter (al := [u1, u2]) (k := 43) (l := [u1, u2, undef, undef, undef, undef, undef, undef, undef, undef, undef, undef, undef, undef, undef, undef, undef, undef, undef, undef, undef, undef, undef, undef, undef, undef, undef, undef, undef, undef, undef, undef, undef, undef, undef, undef, undef, undef, undef, undef, undef, undef, undef, undef, undef]) Try.func16 rfl Try.ntmps16 rfl rfl ?_
  refine wpIn_seq ?_
  refine plain ?_
  refine wpL.is (v := (Value.slice none 0 0)) rfl (d_assign (v := (Value.slice none 0 0)) rfl) ?_
  refine wpL.flat [u1, u2, undef, undef, (Value.slice none 0 0), undef, undef, undef, undef, undef, undef, undef, undef, undef, undef, undef, undef, undef, undef, undef, undef, undef, undef, undef, undef, undef, undef, undef, undef, undef, undef, undef, undef, undef, undef, undef, undef, undef, undef, undef, undef, undef, undef, undef, undef] (by kernel_rfl) ?_
  refine wpL.done ?_
  refine then_n ?_
  refine wpIn_seq ?_
  refine plain ?_
  refine wpL.is (v := u1) rfl (d_move (v := u1) rfl) ?_
  refine wpL.is (v := (eN la.length)) rfl (d_lenS rfl Try.underlying23 rfl h1) ?_
  refine wpL.is (v := u2) rfl (d_move (v := u2) rfl) ?_
  refine wpL.flat [u1, u2, undef, undef, (Value.slice none 0 0), undef, undef, undef, undef, undef, u1, (eN la.length), u2, undef, undef, undef, undef, undef, undef, undef, undef, undef, undef, undef, undef, undef, undef, undef, undef, undef, undef, undef, undef, undef, undef, undef, undef, undef, undef, undef, undef, undef, undef, undef, undef] (by kernel_rfl) ?_
  refine wpL.is (v := (eN lb.length)) rfl (d_lenS rfl Try.underlying23 rfl h2) ?_
  refine wpL.is (v := (eN (la.length + lb.length))) rfl (n_add (a := la.length) (b := lb.length) rfl rfl (by omega)) ?_
  refine wpL.op rfl (d_make1 (n := la.length + lb.length) Try.underlying23 s_ti5 rfl rfl (by omega) (by omega) rfl) ?_
  rintro _ w1 ⟨b, rfl, g2, a3, o4⟩
  replace a3 : Arr 5 b ((List.replicate (la.length + lb.length) 0).map eB) w1 := by rw [List.map_replicate]; exact a3
  have l_b : (List.replicate (la.length + lb.length) 0 : List UInt8).length = la.length + lb.length := by simp
  have g_oW_b : W.heap.size ≤ b := Nat.le_trans oW.size g2
  replace h1 := h1.new o4 g2
  replace h2 := h2.new o4 g2
  replace oW := oW.tail0 o4
  refine wpL.flat [u1, u2, undef, undef, (Value.slice none 0 0), undef, undef, undef, undef, undef, u1, (eN la.length), u2, (eN lb.length), (eN (la.length + lb.length)), (sli b 0 (la.length + lb.length) (la.length + lb.length)), undef, undef, undef, undef, undef, undef, undef, undef, undef, undef, undef, undef, undef, undef, undef, undef, undef, undef, undef, undef, undef, undef, undef, undef, undef, undef, undef, undef, undef] (by kernel_rfl) ?_
  refine wpL.is (v := (sli b 0 (la.length + lb.length) (la.length + lb.length))) rfl (d_assign (v := (sli b 0 (la.length + lb.length) (la.length + lb.length))) rfl) ?_
  refine wpL.flat [u1, u2, undef, undef, (Value.slice none 0 0), (sli b 0 (la.length + lb.length) (la.length + lb.length)), undef, undef, undef, undef, u1, (eN la.length), u2, (eN lb.length), (eN (la.length + lb.length)), (sli b 0 (la.length + lb.length) (la.length + lb.length)), undef, undef, undef, undef, undef, undef, undef, undef, undef, undef, undef, undef, undef, undef, undef, undef, undef, undef, undef, undef, undef, undef, undef, undef, undef, undef, undef, undef, undef] (by kernel_rfl) ?_
  refine wpL.done ?_
  refine then_n ?_
  refine wpIn_seq ?_
  refine wpIn_seq ?_
  refine plain ?_
  refine wpL.is (v := u1) rfl (d_move (v := u1) rfl) ?_
  refine wpL.is (v := (eN la.length)) rfl (d_lenS rfl Try.underlying23 rfl h1) ?_
  refine wpL.is (v := (eN 0)) rfl (d_move (v := (eN 0)) rfl) ?_
  refine wpL.flat [u1, u2, undef, undef, (Value.slice none 0 0), (sli b 0 (la.length + lb.length) (la.length + lb.length)), undef, undef, undef, undef, u1, (eN la.length), u2, (eN lb.length), (eN (la.length + lb.length)), (sli b 0 (la.length + lb.length) (la.length + lb.length)), u1, (eN la.length), (eN 0), undef, undef, undef, undef, undef, undef, undef, undef, undef, undef, undef, undef, undef, undef, undef, undef, undef, undef, undef, undef, undef, undef, undef, undef, undef, undef] (by kernel_rfl) ?_
  refine wpL.done ?_
  refine then_n ?_
  refine wpIn_block ?_
  refine loop2 (fun (i : (Nat)) => fun (z : Nat → Value) => ([u1, u2, undef, undef, (Value.slice none 0 0), (sli b 0 (la.length + lb.length) (la.length + lb.length)), (z 6), (z 7), (z 8), (z 9), u1, (eN la.length), u2, (eN lb.length), (eN (la.length + lb.length)), (sli b 0 (la.length + lb.length) (la.length + lb.length)), u1, (eN la.length), (eN i), (z 19), (z 20), (z 21), (z 22), (z 23), (z 24), (z 25), (z 26), (z 27), (z 28), (z 29), (z 30), (z 31), (z 32), (z 33), (z 34), (z 35), (z 36), (z 37), (z 38), (z 39), (z 40), (z 41), (z 42), undef, undef] : List Value)) (fun (i : (Nat)) => fun (w_ : World) => (i ≤ la.length) ∧ Only (Or1 b No) w1 w_ ∧ (pmul la lb i 0).length = la.length + lb.length ∧ Arr 5 b ((pmul la lb i 0).map eB) w_) (fun (i : (Nat)) => la.length - i) 0 rfl ?_ ?_
  · refine ⟨?_, ?_, ?_, ?_⟩
    · (try dsimp only)
      all_goals (exact Nat.zero_le _)
    · (try dsimp only)
      all_goals (exact Only.refl _ _)
    · (try dsimp only)
      all_goals (exact pmul_length la lb 0 0)
    · (try dsimp only)
      all_goals (rw [← pmul_zero]; exact a3)
  · rintro i z w6 ⟨hi, o5, l_b, a3⟩
    (try dsimp only)
    replace h1 := h1.step o5 (or1_mono no_any)
    replace h2 := h2.step o5 (or1_mono no_any)
    replace oW := oW.tail o5 (tl_new g_oW_b tl_no)
    refine wpIn_seq ?_
    refine plain ?_
    refine wpL.is (v := (Value.bool (decide (i < la.length)))) rfl (n_lss (a := i) (b := la.length) rfl rfl rfl) ?_
    refine wpL.flat [u1, u2, undef, undef, (Value.slice none 0 0), (sli b 0 (la.length + lb.length) (la.length + lb.length)), (z 6), (z 7), (z 8), (z 9), u1, (eN la.length), u2, (eN lb.length), (eN (la.length + lb.length)), (sli b 0 (la.length + lb.length) (la.length + lb.length)), u1, (eN la.length), (eN i), (Value.bool (decide (i < la.length))), (z 20), (z 21), (z 22), (z 23), (z 24), (z 25), (z 26), (z 27), (z 28), (z 29), (z 30), (z 31), (z 32), (z 33), (z 34), (z 35), (z 36), (z 37), (z 38), (z 39), (z 40), (z 41), (z 42), undef, undef] (by kernel_rfl) ?_
    refine wpL.done ?_
    refine then_n ?_
    refine wpIn_seq ?_
    refine cond_if rfl (fun c7 => ?_) (fun c7 => ?_)
    · skip
      refine wpIn_skip ?_
      refine then_n ?_
      refine wpIn_seq ?_
      refine wpIn_block ?_
      refine wpIn_seq ?_
      refine plain ?_
      refine wpL.is (v := (eN i)) rfl (d_move (v := (eN i)) rfl) ?_
      refine wpL.op rfl (d_indexS (q := kB) (xs := la) (v := (la.getD i 0)) Try.underlying23 s_ti5 rfl h1 (show _ = Value.int _ ((i : Nat) : Int) from rfl) (by omega) (g_at (by first | omega | (simp; done) | (simp; omega)))) ?_
      rintro u8 _ ⟨f9, rfl⟩
      refine wpL.is (v := (eB (la.getD i 0))) rfl (d_loadAt (enc := eB) (v := (la.getD i 0)) ⟨_, Try.underlying5, rfl⟩ rfl f9) ?_
      refine wpL.flat [u1, u2, undef, undef, (Value.slice none 0 0), (sli b 0 (la.length + lb.length) (la.length + lb.length)), (z 6), (z 7), (z 8), (z 9), u1, (eN la.length), u2, (eN lb.length), (eN (la.length + lb.length)), (sli b 0 (la.length + lb.length) (la.length + lb.length)), u1, (eN la.length), (eN i), (Value.bool (decide (i < la.length))), (eN i), u8, (eB (la.getD i 0)), (z 23), (z 24), (z 25), (z 26), (z 27), (z 28), (z 29), (z 30), (z 31), (z 32), (z 33), (z 34), (z 35), (z 36), (z 37), (z 38), (z 39), (z 40), (z 41), (z 42), undef, undef] (by kernel_rfl) ?_
      refine wpL.is (v := (eN i)) rfl (d_assign (v := (eN i)) rfl) ?_
      refine wpL.is (v := (eB (la.getD i 0))) rfl (d_assign (v := (eB (la.getD i 0))) rfl) ?_
      refine wpL.flat [u1, u2, undef, undef, (Value.slice none 0 0), (sli b 0 (la.length + lb.length) (la.length + lb.length)), (eN i), (eB (la.getD i 0)), (z 8), (z 9), u1, (eN la.length), u2, (eN lb.length), (eN (la.length + lb.length)), (sli b 0 (la.length + lb.length) (la.length + lb.length)), u1, (eN la.length), (eN i), (Value.bool (decide (i < la.length))), (eN i), u8, (eB (la.getD i 0)), (z 23), (z 24), (z 25), (z 26), (z 27), (z 28), (z 29), (z 30), (z 31), (z 32), (z 33), (z 34), (z 35), (z 36), (z 37), (z 38), (z 39), (z 40), (z 41), (z 42), undef, undef] (by kernel_rfl) ?_
      refine wpL.done ?_
      refine then_n ?_
      refine wpIn_seq ?_
      refine plain ?_
      refine wpL.is (v := u2) rfl (d_move (v := u2) rfl) ?_
      refine wpL.is (v := (eN lb.length)) rfl (d_lenS rfl Try.underlying23 rfl h2) ?_
      refine wpL.is (v := (eN 0)) rfl (d_move (v := (eN 0)) rfl) ?_
      refine wpL.flat [u1, u2, undef, undef, (Value.slice none 0 0), (sli b 0 (la.length + lb.length) (la.length + lb.length)), (eN i), (eB (la.getD i 0)), (z 8), (z 9), u1, (eN la.length), u2, (eN lb.length), (eN (la.length + lb.length)), (sli b 0 (la.length + lb.length) (la.length + lb.length)), u1, (eN la.length), (eN i), (Value.bool (decide (i < la.length))), (eN i), u8, (eB (la.getD i 0)), u2, (eN lb.length), (eN 0), (z 26), (z 27), (z 28), (z 29), (z 30), (z 31), (z 32), (z 33), (z 34), (z 35), (z 36), (z 37), (z 38), (z 39), (z 40), (z 41), (z 42), undef, undef] (by kernel_rfl) ?_
      refine wpL.done ?_
      refine then_n ?_
      refine wpIn_block ?_
      refine loop2 (fun (k : (Nat)) => fun (z : Nat → Value) => ([u1, u2, undef, undef, (Value.slice none 0 0), (sli b 0 (la.length + lb.length) (la.length + lb.length)), (eN i), (eB (la.getD i 0)), (z 8), (z 9), u1, (eN la.length), u2, (eN lb.length), (eN (la.length + lb.length)), (sli b 0 (la.length + lb.length) (la.length + lb.length)), u1, (eN la.length), (eN i), (Value.bool (decide (i < la.length))), (eN i), u8, (eB (la.getD i 0)), u2, (eN lb.length), (eN k), (z 26), (z 27), (z 28), (z 29), (z 30), (z 31), (z 32), (z 33), (z 34), (z 35), (z 36), (z 37), (z 38), (z 39), (z 40), (z 41), (z 42), undef, undef] : List Value)) (fun (k : (Nat)) => fun (w_ : World) => (k ≤ lb.length) ∧ Only (Or1 b No) w6 w_ ∧ (pmul la lb i k).length = la.length + lb.length ∧ Arr 5 b ((pmul la lb i k).map eB) w_) (fun (k : (Nat)) => lb.length - k) 0 rfl ?_ ?_
      · refine ⟨?_, ?_, ?_, ?_⟩
        · (try dsimp only)
          all_goals (exact Nat.zero_le _)
        · (try dsimp only)
          all_goals (exact Only.refl _ _)
        · (try dsimp only)
          all_goals (exact l_b)
        · (try dsimp only)
          all_goals (exact a3)
      · rintro k z w11 ⟨hk, o10, l_b, a3⟩
        (try dsimp only)
        replace h1 := h1.step o10 (or1_mono no_any)
        replace h2 := h2.step o10 (or1_mono no_any)
        replace f9 := f9.step o10 (or1_mono no_any)
        replace oW := oW.tail o10 (tl_new g_oW_b tl_no)
        replace o5 := o5.tail o10 (tl_in in1 tl_no)
        refine wpIn_seq ?_
        refine plain ?_
        refine wpL.is (v := (Value.bool (decide (k < lb.length)))) rfl (n_lss (a := k) (b := lb.length) rfl rfl rfl) ?_
        refine wpL.flat [u1, u2, undef, undef, (Value.slice none 0 0), (sli b 0 (la.length + lb.length) (la.length + lb.length)), (eN i), (eB (la.getD i 0)), (z 8), (z 9), u1, (eN la.length), u2, (eN lb.length), (eN (la.length + lb.length)), (sli b 0 (la.length + lb.length) (la.length + lb.length)), u1, (eN la.length), (eN i), (Value.bool (decide (i < la.length))), (eN i), u8, (eB (la.getD i 0)), u2, (eN lb.length), (eN k), (Value.bool (decide (k < lb.length))), (z 27), (z 28), (z 29), (z 30), (z 31), (z 32), (z 33), (z 34), (z 35), (z 36), (z 37), (z 38), (z 39), (z 40), (z 41), (z 42), undef, undef] (by kernel_rfl) ?_
        refine wpL.done ?_
        refine then_n ?_
        refine wpIn_seq ?_
        refine cond_if rfl (fun c12 => ?_) (fun c12 => ?_)
        · skip
          refine wpIn_skip ?_
          refine then_n ?_
          refine wpIn_seq ?_
          refine wpIn_block ?_
          refine wpIn_seq ?_
          refine plain ?_
          refine wpL.is (v := (eN k)) rfl (d_move (v := (eN k)) rfl) ?_
          refine wpL.op rfl (d_indexS (q := kB) (xs := lb) (v := (lb.getD k 0)) Try.underlying23 s_ti5 rfl h2 (show _ = Value.int _ ((k : Nat) : Int) from rfl) (by omega) (g_at (by first | omega | (simp; done) | (simp; omega)))) ?_
          rintro u13 _ ⟨f14, rfl⟩
          refine wpL.is (v := (eB (lb.getD k 0))) rfl (d_loadAt (enc := eB) (v := (lb.getD k 0)) ⟨_, Try.underlying5, rfl⟩ rfl f14) ?_
          refine wpL.flat [u1, u2, undef, undef, (Value.slice none 0 0), (sli b 0 (la.length + lb.length) (la.length + lb.length)), (eN i), (eB (la.getD i 0)), (z 8), (z 9), u1, (eN la.length), u2, (eN lb.length), (eN (la.length + lb.length)), (sli b 0 (la.length + lb.length) (la.length + lb.length)), u1, (eN la.length), (eN i), (Value.bool (decide (i < la.length))), (eN i), u8, (eB (la.getD i 0)), u2, (eN lb.length), (eN k), (Value.bool (decide (k < lb.length))), (eN k), u13, (eB (lb.getD k 0)), (z 30), (z 31), (z 32), (z 33), (z 34), (z 35), (z 36), (z 37), (z 38), (z 39), (z 40), (z 41), (z 42), undef, undef] (by kernel_rfl) ?_
          refine wpL.is (v := (eN k)) rfl (d_assign (v := (eN k)) rfl) ?_
          refine wpL.is (v := (eB (lb.getD k 0))) rfl (d_assign (v := (eB (lb.getD k 0))) rfl) ?_
          refine wpL.flat [u1, u2, undef, undef, (Value.slice none 0 0), (sli b 0 (la.length + lb.length) (la.length + lb.length)), (eN i), (eB (la.getD i 0)), (eN k), (eB (lb.getD k 0)), u1, (eN la.length), u2, (eN lb.length), (eN (la.length + lb.length)), (sli b 0 (la.length + lb.length) (la.length + lb.length)), u1, (eN la.length), (eN i), (Value.bool (decide (i < la.length))), (eN i), u8, (eB (la.getD i 0)), u2, (eN lb.length), (eN k), (Value.bool (decide (k < lb.length))), (eN k), u13, (eB (lb.getD k 0)), (z 30), (z 31), (z 32), (z 33), (z 34), (z 35), (z 36), (z 37), (z 38), (z 39), (z 40), (z 41), (z 42), undef, undef] (by kernel_rfl) ?_
          refine wpL.done ?_
          refine then_n ?_
          refine drawn' (O := (Or1 b No)) (n := 12) [0, 0, 0, 6, 15, 31, 0, 0, 192, 511, 1023, 2047] [(0, 30), (1, 31), (2, 32), (3, 33), (4, 34), (5, 35), (6, 36), (7, 37), (8, 38), (9, 39), (10, 40)] [0, 1, 2, 3, 4, 5, 6, 7, 8, 9, 10] [11] (fun i_ => ([RF.is (Or1 b No) (sli b 0 (la.length + lb.length) (la.length + lb.length)), RF.is (Or1 b No) (eN i), RF.is (Or1 b No) (eN k), RF.is (Or1 b No) (eN (i + k)), RF.is (Or1 b No) (ptr b (i + k)), RF.is (Or1 b No) (eB ((pmul la lb i k).getD (i + k) 0)), RF.is (Or1 b No) (eB (la.getD i 0)), RF.is (Or1 b No) (eB (lb.getD k 0)), RF.is (Or1 b No) (eB (gm (la.getD i 0) (lb.getD k 0))), RF.is (Or1 b No) (eB (((pmul la lb i k).getD (i + k) 0) ^^^ (gm (la.getD i 0) (lb.getD k 0)))), RF.is (Or1 b No) (ptr b (i + k)), RF.any (Or1 b No)] : List (RF (Or1 b No))).getD i_ (RF.any (Or1 b No))) (fun k_ w_ => match k_ with | 0 => Arr 5 b ((pmul la lb i k).map eB) w_ | _ => Arr 5 b (((pmul la lb i k).set (i + k) (((pmul la lb i k).getD (i + k) 0) ^^^ (gm (la.getD i 0) (lb.getD k 0)))).map eB) w_) (fun v15 => [u1, u2, undef, undef, (Value.slice none 0 0), (sli b 0 (la.length + lb.length) (la.length + lb.length)), (eN i), (eB (la.getD i 0)), (eN k), (eB (lb.getD k 0)), u1, (eN la.length), u2, (eN lb.length), (eN (la.length + lb.length)), (sli b 0 (la.length + lb.length) (la.length + lb.length)), u1, (eN la.length), (eN i), (Value.bool (decide (i < la.length))), (eN i), u8, (eB (la.getD i 0)), u2, (eN lb.length), (eN k), (Value.bool (decide (k < lb.length))), (eN k), u13, (eB (lb.getD k 0)), (v15 0), (v15 1), (v15 2), (v15 3), (v15 4), (v15 5), (v15 6), (v15 7), (v15 8), (v15 9), (v15 10), (z 41), (z 42), undef, undef]) s_mx (by kernel_rfl) rfl (by decide) (by rfl) (fun v_ => by kernel_rfl) (fun k_ => match k_ with | 0 => fun w_ w2_ h ho => by have r_a3 := h; exact r_a3.step0 ho | (_ + 1) => fun w_ w2_ h ho => by have r_a3 := h; exact r_a3.step0 ho) a3 ?_ ?_ ?_
          · skip
            refine ls_cons ?_ ?_
            · intro v15 lo hi w_ k_ hO hd _ _ hk_ _ hR hold
              obtain rfl : k_ = 0 := Nat.le_zero.1 (hk_ 0 (by decide) (by kernel_rfl))
              have r_a3 := hR
              clear hd hold
              refine ⟨_, rfl, gd rfl ?_⟩
              exact Does.is (d_move (v := (sli b 0 (la.length + lb.length) (la.length + lb.length))) rfl)
            refine ls_cons ?_ ?_
            · intro v15 lo hi w_ k_ hO hd _ _ hk_ _ hR hold
              obtain rfl : k_ = 0 := Nat.le_zero.1 (hk_ 0 (by decide) (by kernel_rfl))
              have r_a3 := hR
              clear hd hold
              refine ⟨_, rfl, gd rfl ?_⟩
              exact Does.is (d_move (v := (eN i)) rfl)
            refine ls_cons ?_ ?_
            · intro v15 lo hi w_ k_ hO hd _ _ hk_ _ hR hold
              obtain rfl : k_ = 0 := Nat.le_zero.1 (hk_ 0 (by decide) (by kernel_rfl))
              have r_a3 := hR
              clear hd hold
              refine ⟨_, rfl, gd rfl ?_⟩
              exact Does.is (d_move (v := (eN k)) rfl)
            refine ls_cons ?_ ?_
            · intro v15 lo hi w_ k_ hO hd _ _ hk_ _ hR hold
              obtain rfl : k_ = 0 := Nat.le_zero.1 (hk_ 0 (by decide) (by kernel_rfl))
              have r_a3 := hR
              have e1 : v15 1 = (eN i) := hd 1 (by kernel_rfl)
              have e2 : v15 2 = (eN k) := hd 2 (by kernel_rfl)
              clear hd hold
              refine ⟨_, rfl, gd rfl ?_⟩
              exact Does.is (n_add (a := i) (b := k) e1 e2 (by omega))
            refine ls_cons ?_ ?_
            · intro v15 lo hi w_ k_ hO hd _ _ hk_ _ hR hold
              obtain rfl : k_ = 0 := Nat.le_zero.1 (hk_ 0 (by decide) (by kernel_rfl))
              have r_a3 := hR
              have e0 : v15 0 = (sli b 0 (la.length + lb.length) (la.length + lb.length)) := hd 0 (by kernel_rfl)
              have e3 : v15 3 = (eN (i + k)) := hd 3 (by kernel_rfl)
              clear hd hold
              refine ⟨_, rfl, gd rfl ?_⟩
              exact Does.is (d_index1 (n := (la.length + lb.length)) (i := (i + k)) Try.underlying23 s_ti5 e0 (show _ = Value.int _ ((i + k : Nat) : Int) from e3) (by omega))
            refine ls_cons ?_ ?_
            · intro v15 lo hi w_ k_ hO hd _ _ hk_ _ hR hold
              obtain rfl : k_ = 0 := Nat.le_zero.1 (hk_ 0 (by decide) (by kernel_rfl))
              have r_a3 := hR
              have e4 : v15 4 = (ptr b (i + k)) := hd 4 (by kernel_rfl)
              clear hd hold
              refine ⟨_, rfl, gd rfl ?_⟩
              exact Does.is (d_load ⟨_, Try.underlying5, rfl⟩ e4 r_a3 (m_at (d := 0) (by rw [l_b]; omega)))
            refine ls_cons ?_ ?_
            · intro v15 lo hi w_ k_ hO hd _ _ hk_ _ hR hold
              obtain rfl : k_ = 0 := Nat.le_zero.1 (hk_ 0 (by decide) (by kernel_rfl))
              have r_a3 := hR
              clear hd hold
              refine ⟨_, rfl, gd rfl ?_⟩
              exact Does.is (d_move (v := (eB (la.getD i 0))) rfl)
            refine ls_cons ?_ ?_
            · intro v15 lo hi w_ k_ hO hd _ _ hk_ _ hR hold
              obtain rfl : k_ = 0 := Nat.le_zero.1 (hk_ 0 (by decide) (by kernel_rfl))
              have r_a3 := hR
              clear hd hold
              refine ⟨_, rfl, gd rfl ?_⟩
              exact Does.is (d_move (v := (eB (lb.getD k 0))) rfl)
            refine ls_cons ?_ ?_
            · intro v15 lo hi w_ k_ hO hd _ _ hk_ _ hR hold
              obtain rfl : k_ = 0 := Nat.le_zero.1 (hk_ 0 (by decide) (by kernel_rfl))
              have r_a3 := hR
              have e6 : v15 6 = (eB (la.getD i 0)) := hd 6 (by kernel_rfl)
              have e7 : v15 7 = (eB (lb.getD k 0)) := hd 7 (by kernel_rfl)
              clear hd hold
              refine ⟨_, rfl, gd rfl ?_⟩
              exact d_call (xl := [.tmp 36, .tmp 37]) (al := [(eB (la.getD i 0)), (eB (lb.getD k 0))]) Try.func28 (by kernel_rfl) rfl (show ([(v15 6), (v15 7)] : List Value) = [(eB (la.getD i 0)), (eB (lb.getD k 0))] from by rw [e6, e7]) rfl (gfMul_ok (la.getD i 0) (lb.getD k 0) _)
            refine ls_cons ?_ ?_
            · intro v15 lo hi w_ k_ hO hd _ _ hk_ _ hR hold
              obtain rfl : k_ = 0 := Nat.le_zero.1 (hk_ 0 (by decide) (by kernel_rfl))
              have r_a3 := hR
              have e5 : v15 5 = (eB ((pmul la lb i k).getD (i + k) 0)) := hd 5 (by kernel_rfl)
              have e8 : v15 8 = (eB (gm (la.getD i 0) (lb.getD k 0))) := hd 8 (by kernel_rfl)
              clear hd hold
              refine ⟨_, rfl, gd rfl ?_⟩
              exact Does.is (b_xor (c := ((pmul la lb i k).getD (i + k) 0)) (e := (gm (la.getD i 0) (lb.getD k 0))) e5 e8)
            refine ls_cons ?_ ?_
            · intro v15 lo hi w_ k_ hO hd _ _ hk_ _ hR hold
              obtain rfl : k_ = 0 := Nat.le_zero.1 (hk_ 0 (by decide) (by kernel_rfl))
              have r_a3 := hR
              have e0 : v15 0 = (sli b 0 (la.length + lb.length) (la.length + lb.length)) := hd 0 (by kernel_rfl)
              have e3 : v15 3 = (eN (i + k)) := hd 3 (by kernel_rfl)
              clear hd hold
              refine ⟨_, rfl, gd rfl ?_⟩
              exact Does.is (d_index1 (n := (la.length + lb.length)) (i := (i + k)) Try.underlying23 s_ti5 e0 (show _ = Value.int _ ((i + k : Nat) : Int) from e3) (by omega))
            exact ls_nil
          · skip
            refine ms_one ?_
            · intro v15 lo hi w_ hO hd _ hR hold
              have r_a3 := hR
              have e10 : v15 10 = (ptr b (i + k)) := hd 10 (by kernel_rfl)
              have e9 : v15 9 = (eB (((pmul la lb i k).getD (i + k) 0) ^^^ (gm (la.getD i 0) (lb.getD k 0)))) := hd 9 (by kernel_rfl)
              clear hd hold
              refine ⟨_, rfl, gd rfl ?_⟩
              refine Does.mono (d_store (b := b) (i := (i + k)) (v := (eB (((pmul la lb i k).getD (i + k) 0) ^^^ (gm (la.getD i 0) (lb.getD k 0))))) s_ti5 e10 e9 rfl r_a3 (by rw [List.length_map, l_b]; omega) (m_put (pmul la lb i k) (i + k) (((pmul la lb i k).getD (i + k) 0) ^^^ (gm (la.getD i 0) (lb.getD k 0))) eB)) (fun u w' h => ⟨trivial, h.1, h.2.mono (fun k _ e => by have : k = b := e; rw [this]; exact in1)⟩)
          intro v15 lo_ hi_ w16 o17 hd iv_ hR
          have e0 : v15 0 = (sli b 0 (la.length + lb.length) (la.length + lb.length)) := hd 0 (by decide)
          have e1 : v15 1 = (eN i) := hd 1 (by decide)
          have e2 : v15 2 = (eN k) := hd 2 (by decide)
          have e3 : v15 3 = (eN (i + k)) := hd 3 (by decide)
          have e4 : v15 4 = (ptr b (i + k)) := hd 4 (by decide)
          have e5 : v15 5 = (eB ((pmul la lb i k).getD (i + k) 0)) := hd 5 (by decide)
          have e6 : v15 6 = (eB (la.getD i 0)) := hd 6 (by decide)
          have e7 : v15 7 = (eB (lb.getD k 0)) := hd 7 (by decide)
          have e8 : v15 8 = (eB (gm (la.getD i 0) (lb.getD k 0))) := hd 8 (by decide)
          have e9 : v15 9 = (eB (((pmul la lb i k).getD (i + k) 0) ^^^ (gm (la.getD i 0) (lb.getD k 0)))) := hd 9 (by decide)
          have e10 : v15 10 = (ptr b (i + k)) := hd 10 (by decide)
          clear hd iv_ lo_ hi_
          refine fr_eq (l' := [u1, u2, undef, undef, (Value.slice none 0 0), (sli b 0 (la.length + lb.length) (la.length + lb.length)), (eN i), (eB (la.getD i 0)), (eN k), (eB (lb.getD k 0)), u1, (eN la.length), u2, (eN lb.length), (eN (la.length + lb.length)), (sli b 0 (la.length + lb.length) (la.length + lb.length)), u1, (eN la.length), (eN i), (Value.bool (decide (i < la.length))), (eN i), u8, (eB (la.getD i 0)), u2, (eN lb.length), (eN k), (Value.bool (decide (k < lb.length))), (eN k), u13, (eB (lb.getD k 0)), (sli b 0 (la.length + lb.length) (la.length + lb.length)), (eN i), (eN k), (eN (i + k)), (ptr b (i + k)), (eB ((pmul la lb i k).getD (i + k) 0)), (eB (la.getD i 0)), (eB (lb.getD k 0)), (eB (gm (la.getD i 0) (lb.getD k 0))), (eB (((pmul la lb i k).getD (i + k) 0) ^^^ (gm (la.getD i 0) (lb.getD k 0)))), (ptr b (i + k)), (z 41), (z 42), undef, undef]) (by rw [e0, e1, e2, e3, e4, e5, e6, e7, e8, e9, e10]) ?_
          clear e0 e1 e2 e3 e4 e5 e6 e7 e8 e9 e10
          replace h1 := h1.step o17 (or1_mono no_any)
          replace h2 := h2.step o17 (or1_mono no_any)
          replace f9 := f9.step o17 (or1_mono no_any)
          replace f14 := f14.step o17 (or1_mono no_any)
          replace a3 : Arr 5 b (((pmul la lb i k).set (i + k) (((pmul la lb i k).getD (i + k) 0) ^^^ (gm (la.getD i 0) (lb.getD k 0)))).map eB) w16 := hR
          clear hR
          replace l_b : ((pmul la lb i k).set (i + k) (((pmul la lb i k).getD (i + k) 0) ^^^ (gm (la.getD i 0) (lb.getD k 0)))).length = la.length + lb.length := (List.length_set ..).trans l_b
          replace oW := oW.tail o17 (tl_new g_oW_b tl_no)
          replace o5 := o5.tail o17 (tl_in in1 tl_no)
          replace o10 := o10.tail o17 (tl_in in1 tl_no)
          refine inb_n (then_n ?_)
          refine plain ?_
          refine wpL.is (v := (eN (k + 1))) rfl (n_add (a := k) (b := 1) rfl rfl (by omega)) ?_
          refine wpL.is (v := (eN (k + 1))) rfl (d_move (v := (eN (k + 1))) rfl) ?_
          refine wpL.flat [u1, u2, undef, undef, (Value.slice none 0 0), (sli b 0 (la.length + lb.length) (la.length + lb.length)), (eN i), (eB (la.getD i 0)), (eN k), (eB (lb.getD k 0)), u1, (eN la.length), u2, (eN lb.length), (eN (la.length + lb.length)), (sli b 0 (la.length + lb.length) (la.length + lb.length)), u1, (eN la.length), (eN i), (Value.bool (decide (i < la.length))), (eN i), u8, (eB (la.getD i 0)), u2, (eN lb.length), (eN (k + 1)), (Value.bool (decide (k < lb.length))), (eN k), u13, (eB (lb.getD k 0)), (sli b 0 (la.length + lb.length) (la.length + lb.length)), (eN i), (eN k), (eN (i + k)), (ptr b (i + k)), (eB ((pmul la lb i k).getD (i + k) 0)), (eB (la.getD i 0)), (eB (lb.getD k 0)), (eB (gm (la.getD i 0) (lb.getD k 0))), (eB (((pmul la lb i k).getD (i + k) 0) ^^^ (gm (la.getD i 0) (lb.getD k 0)))), (ptr b (i + k)), (eN (k + 1)), (z 42), undef, undef] (by kernel_rfl) ?_
          refine wpL.done ?_
          refine then_n ?_
          refine ⟨_, (k + 1), rfl, rfl, ⟨?_, ?_, ?_, ?_⟩, ?_⟩
          · (try dsimp only)
            all_goals (omega)
          · (try dsimp only)
            all_goals (exact o10)
          · (try dsimp only)
            all_goals (exact pmul_length la lb _ _)
          · (try dsimp only)
            all_goals (rw [← pmul_step (by omega) (by omega)]; exact a3)
          · (try dsimp only)
            all_goals (omega)
        · skip
          refine wpIn_exit ?_
          refine then_x (then_x (inb_e ?_))
          refine inb_n (then_n ?_)
          refine plain ?_
          refine wpL.is (v := (eN (i + 1))) rfl (n_add (a := i) (b := 1) rfl rfl (by omega)) ?_
          refine wpL.is (v := (eN (i + 1))) rfl (d_move (v := (eN (i + 1))) rfl) ?_
          refine wpL.flat [u1, u2, undef, undef, (Value.slice none 0 0), (sli b 0 (la.length + lb.length) (la.length + lb.length)), (eN i), (eB (la.getD i 0)), (z 8), (z 9), u1, (eN la.length), u2, (eN lb.length), (eN (la.length + lb.length)), (sli b 0 (la.length + lb.length) (la.length + lb.length)), u1, (eN la.length), (eN (i + 1)), (Value.bool (decide (i < la.length))), (eN i), u8, (eB (la.getD i 0)), u2, (eN lb.length), (eN k), (Value.bool (decide (k < lb.length))), (z 27), (z 28), (z 29), (z 30), (z 31), (z 32), (z 33), (z 34), (z 35), (z 36), (z 37), (z 38), (z 39), (z 40), (z 41), (eN (i + 1)), undef, undef] (by kernel_rfl) ?_
          refine wpL.done ?_
          refine then_n ?_
          refine ⟨_, (i + 1), rfl, rfl, ⟨?_, ?_, ?_, ?_⟩, ?_⟩
          · (try dsimp only)
            all_goals (omega)
          · (try dsimp only)
            all_goals (exact o5)
          · (try dsimp only)
            all_goals (exact pmul_length la lb _ _)
          · (try dsimp only)
            all_goals (rw [← pmul_next (by omega), show lb.length = k by omega]; exact a3)
          · (try dsimp only)
            all_goals (omega)
    · skip
      refine wpIn_exit ?_
      refine then_x (then_x (inb_e ?_))
      refine then_n ?_
      refine wpIn_seq ?_
      refine plain ?_
      refine wpL.is (v := (sli b 0 (la.length + lb.length) (la.length + lb.length))) rfl (d_move (v := (sli b 0 (la.length + lb.length) (la.length + lb.length))) rfl) ?_
      refine wpL.op rfl (d_call (xl := [.tmp 43]) (al := [(sli b 0 (la.length + lb.length) (la.length + lb.length))]) Try.func18 (by kernel_rfl) rfl rfl rfl (trim_ok (pmul la lb i 0) (sli b 0 (la.length + lb.length) (la.length + lb.length)) _ (Ps.no (arr_seq a3 l_b (Nat.le_refl _))) (by have := pmul_length la lb i 0; first | omega | (simp; done) | (simp; omega)))) ?_
      rintro u20 w18 f21
      obtain ⟨bo22, f21, g23, o19⟩ := f21
      have nq_r_b := nq_new g23 a3.lt
      have q_oW_r := qnew g23 oW.size
      have q_o5_r := qnew g23 o5.size
      replace h1 := h1.newq o19 g23
      replace h2 := h2.newq o19 g23
      replace a3 := a3.step0 o19
      replace oW := oW.tail0 o19
      replace o5 := o5.tail0 o19
      refine wpL.is (v := u20) rfl (d_assign (v := u20) rfl) ?_
      refine wpL.flat [u1, u2, undef, undef, u20, (sli b 0 (la.length + lb.length) (la.length + lb.length)), (z 6), (z 7), (z 8), (z 9), u1, (eN la.length), u2, (eN lb.length), (eN (la.length + lb.length)), (sli b 0 (la.length + lb.length) (la.length + lb.length)), u1, (eN la.length), (eN i), (Value.bool (decide (i < la.length))), (z 20), (z 21), (z 22), (z 23), (z 24), (z 25), (z 26), (z 27), (z 28), (z 29), (z 30), (z 31), (z 32), (z 33), (z 34), (z 35), (z 36), (z 37), (z 38), (z 39), (z 40), (z 41), (z 42), (sli b 0 (la.length + lb.length) (la.length + lb.length)), u20] (by kernel_rfl) ?_
      refine wpL.done ?_
      refine then_n ?_
      refine wpIn_ret ?_
      refine leave0 (v := u20) (res1 Try.results16 rfl) ?_
      exact ROw.mk_ f21 (by rw [show i = la.length by omega]; exact pmul_done la lb) q_oW_r oW

set_option maxRecDepth 20000 in
set_option maxHeartbeats 1000000 in
theorem add_ok (la lb : List UInt8) (u1 u2 : Value) (W : World) (h1 : Ps No (Seq kB la u1) W) (h2 : Ps No (Seq kB lb u2) W) (g1 : la.length ≤ 1048576) (g2 : lb.length ≤ 1048576) :
    CW Try.prog 17 #[u1, u2] W (Rt (ROw 5 eB (addP la lb) W)) := by
  have oW : Only No W W := Only.refl _ _
  refine enter (al := [u1, u2]) (k := 32) (l := [u1, u2, undef, undef, undef, undef, undef, undef, undef, undef, undef, undef, undef, undef, undef, undef, undef, undef, undef, undef, undef, undef, undef, undef, undef, undef, undef, undef, undef, undef, undef, undef, undef, undef]) Try.func17 rfl Try.ntmps17 rfl rfl ?_
  refine wpIn_seq ?_
  refine plain ?_
  refine wpL.is (v := (Value.slice none 0 0)) rfl (d_assign (v := (Value.slice none 0 0)) rfl) ?_
  refine wpL.flat [u1, u2, undef, undef, (Value.slice none 0 0), undef, undef, undef, undef, undef, undef, undef, undef, undef, undef, undef, undef, undef, undef, undef, undef, undef, undef, undef, undef, undef, undef, undef, undef, undef, undef, undef, undef, undef] (by kernel_rfl) ?_
  refine wpL.done ?_
  refine then_n ?_
  refine wpIn_seq ?_
  refine plain ?_
  refine wpL.is (v := u1) rfl (d_move (v := u1) rfl) ?_
  refine wpL.is (v := (eN la.length)) rfl (d_lenS rfl Try.underlying23 rfl h1) ?_
  refine wpL.is (v := u2) rfl (d_move (v := u2) rfl) ?_
  refine wpL.flat [u1, u2, undef, undef, (Value.slice none 0 0), undef, undef, undef, u1, (eN la.length), u2, undef, undef, undef, undef, undef, undef, undef, undef, undef, undef, undef, undef, undef, undef, undef, undef, undef, undef, undef, undef, undef, undef, undef] (by kernel_rfl) ?_
  refine wpL.is (v := (eN lb.length)) rfl (d_lenS rfl Try.underlying23 rfl h2) ?_
  refine wpL.is (v := (eN (max la.length lb.length))) rfl (n_max rfl rfl) ?_
  refine wpL.op rfl (d_make1 (n := max la.length lb.length) Try.underlying23 s_ti5 rfl rfl (by omega) (by omega) rfl) ?_
  rintro _ w1 ⟨b, rfl, g2, a3, o4⟩
  replace a3 : Arr 5 b ((List.replicate (max la.length lb.length) 0).map eB) w1 := by rw [List.map_replicate]; exact a3
  have l_b : (List.replicate (max la.length lb.length) 0 : List UInt8).length = max la.length lb.length := by simp
  have g_oW_b : W.heap.size ≤ b := Nat.le_trans oW.size g2
  replace h1 := h1.new o4 g2
  replace h2 := h2.new o4 g2
  replace oW := oW.tail0 o4
  refine wpL.flat [u1, u2, undef, undef, (Value.slice none 0 0), undef, undef, undef, u1, (eN la.length), u2, (eN lb.length), (eN (max la.length lb.length)), (sli b 0 (max la.length lb.length) (max la.length lb.length)), undef, undef, undef, undef, undef, undef, undef, undef, undef, undef, undef, undef, undef, undef, undef, undef, undef, undef, undef, undef] (by kernel_rfl) ?_
  refine wpL.is (v := (sli b 0 (max la.length lb.length) (max la.length lb.length))) rfl (d_assign (v := (sli b 0 (max la.length lb.length) (max la.length lb.length))) rfl) ?_
  refine wpL.flat [u1, u2, undef, undef, (Value.slice none 0 0), (sli b 0 (max la.length lb.length) (max la.length lb.length)), undef, undef, u1, (eN la.length), u2, (eN lb.length), (eN (max la.length lb.length)), (sli b 0 (max la.length lb.length) (max la.length lb.length)), undef, undef, undef, undef, undef, undef, undef, undef, undef, undef, undef, undef, undef, undef, undef, undef, undef, undef, undef, undef] (by kernel_rfl) ?_
  refine wpL.done ?_
  refine then_n ?_
  refine wpIn_seq ?_
  refine plain ?_
  refine wpL.is (v := (sli b 0 (max la.length lb.length) (max la.length lb.length))) rfl (d_move (v := (sli b 0 (max la.length lb.length) (max la.length lb.length))) rfl) ?_
  refine wpL.is (v := u1) rfl (d_move (v := u1) rfl) ?_
  refine wpL.op rfl (d_copy (b := b) (o := 0) (n := (max la.length lb.length)) (c := (max la.length lb.length)) (zs := (padd la lb 0)) (j := la.length) rfl Try.underlying23 s_ti5 rfl rfl a3 h1 (fun _ => rfl) (by rw [l_b]; omega) (by omega) (padd_zero la lb)) ?_
  rintro _ w5 ⟨rfl, a6, o7⟩
  replace h1 := h1.stepb o7 in1
  replace h2 := h2.stepb o7 in1
  replace oW := oW.tailb o7 g_oW_b
  replace l_b : (padd la lb 0).length = max la.length lb.length := padd_length la lb 0
  refine wpL.flat [u1, u2, undef, undef, (Value.slice none 0 0), (sli b 0 (max la.length lb.length) (max la.length lb.length)), undef, undef, u1, (eN la.length), u2, (eN lb.length), (eN (max la.length lb.length)), (sli b 0 (max la.length lb.length) (max la.length lb.length)), (sli b 0 (max la.length lb.length) (max la.length lb.length)), u1, (eN la.length), undef, undef, undef, undef, undef, undef, undef, undef, undef, undef, undef, undef, undef, undef, undef, undef, undef] (by kernel_rfl) ?_
  refine wpL.done ?_
  refine then_n ?_
  refine wpIn_seq ?_
  refine wpIn_seq ?_
  refine plain ?_
  refine wpL.is (v := u2) rfl (d_move (v := u2) rfl) ?_
  refine wpL.is (v := (eN lb.length)) rfl (d_lenS rfl Try.underlying23 rfl h2) ?_
  refine wpL.is (v := (eN 0)) rfl (d_move (v := (eN 0)) rfl) ?_
  refine wpL.flat [u1, u2, undef, undef, (Value.slice none 0 0), (sli b 0 (max la.length lb.length) (max la.length lb.length)), undef, undef, u1, (eN la.length), u2, (eN lb.length), (eN (max la.length lb.length)), (sli b 0 (max la.length lb.length) (max la.length lb.length)), (sli b 0 (max la.length lb.length) (max la.length lb.length)), u1, (eN la.length), u2, (eN lb.length), (eN 0), undef, undef, undef, undef, undef, undef, undef, undef, undef, undef, undef, undef, undef, undef] (by kernel_rfl) ?_
  refine wpL.done ?_
  refine then_n ?_
  refine wpIn_block ?_
  refine loop2 (fun (i : (Nat)) => fun (z : Nat → Value) => ([u1, u2, undef, undef, (Value.slice none 0 0), (sli b 0 (max la.length lb.length) (max la.length lb.length)), (z 6), (z 7), u1, (eN la.length), u2, (eN lb.length), (eN (max la.length lb.length)), (sli b 0 (max la.length lb.length) (max la.length lb.length)), (sli b 0 (max la.length lb.length) (max la.length lb.length)), u1, (eN la.length), u2, (eN lb.length), (eN i), (z 20), (z 21), (z 22), (z 23), (z 24), (z 25), (z 26), (z 27), (z 28), (z 29), (z 30), (z 31), undef, undef] : List Value)) (fun (i : (Nat)) => fun (w_ : World) => (i ≤ lb.length) ∧ Only (Or1 b No) w5 w_ ∧ (padd la lb i).length = max la.length lb.length ∧ Arr 5 b ((padd la lb i).map eB) w_) (fun (i : (Nat)) => lb.length - i) 0 rfl ?_ ?_
  · refine ⟨?_, ?_, ?_, ?_⟩
    · (try dsimp only)
      all_goals (exact Nat.zero_le _)
    · (try dsimp only)
      all_goals (exact Only.refl _ _)
    · (try dsimp only)
      all_goals (exact padd_length la lb 0)
    · (try dsimp only)
      all_goals (exact a6)
  · rintro i z w9 ⟨hi, o8, l_b, a6⟩
    (try dsimp only)
    replace h1 := h1.step o8 (or1_mono no_any)
    replace h2 := h2.step o8 (or1_mono no_any)
    replace oW := oW.tail o8 (tl_new g_oW_b tl_no)
    refine wpIn_seq ?_
    refine plain ?_
    refine wpL.is (v := (Value.bool (decide (i < lb.length)))) rfl (n_lss (a := i) (b := lb.length) rfl rfl rfl) ?_
    refine wpL.flat [u1, u2, undef, undef, (Value.slice none 0 0), (sli b 0 (max la.length lb.length) (max la.length lb.length)), (z 6), (z 7), u1, (eN la.length), u2, (eN lb.length), (eN (max la.length lb.length)), (sli b 0 (max la.length lb.length) (max la.length lb.length)), (sli b 0 (max la.length lb.length) (max la.length lb.length)), u1, (eN la.length), u2, (eN lb.length), (eN i), (Value.bool (decide (i < lb.length))), (z 21), (z 22), (z 23), (z 24), (z 25), (z 26), (z 27), (z 28), (z 29), (z 30), (z 31), undef, undef] (by kernel_rfl) ?_
    refine wpL.done ?_
    refine then_n ?_
    refine wpIn_seq ?_
    refine cond_if rfl (fun c10 => ?_) (fun c10 => ?_)
    · skip
      refine wpIn_skip ?_
      refine then_n ?_
      refine wpIn_seq ?_
      refine wpIn_block ?_
      refine wpIn_seq ?_
      refine plain ?_
      refine wpL.is (v := (eN i)) rfl (d_move (v := (eN i)) rfl) ?_
      refine wpL.op rfl (d_indexS (q := kB) (xs := lb) (v := (lb.getD i 0)) Try.underlying23 s_ti5 rfl h2 (show _ = Value.int _ ((i : Nat) : Int) from rfl) (by omega) (g_at (by first | omega | (simp; done) | (simp; omega)))) ?_
      rintro u11 _ ⟨f12, rfl⟩
      refine wpL.is (v := (eB (lb.getD i 0))) rfl (d_loadAt (enc := eB) (v := (lb.getD i 0)) ⟨_, Try.underlying5, rfl⟩ rfl f12) ?_
      refine wpL.flat [u1, u2, undef, undef, (Value.slice none 0 0), (sli b 0 (max la.length lb.length) (max la.length lb.length)), (z 6), (z 7), u1, (eN la.length), u2, (eN lb.length), (eN (max la.length lb.length)), (sli b 0 (max la.length lb.length) (max la.length lb.length)), (sli b 0 (max la.length lb.length) (max la.length lb.length)), u1, (eN la.length), u2, (eN lb.length), (eN i), (Value.bool (decide (i < lb.length))), (eN i), u11, (eB (lb.getD i 0)), (z 24), (z 25), (z 26), (z 27), (z 28), (z 29), (z 30), (z 31), undef, undef] (by kernel_rfl) ?_
      refine wpL.is (v := (eN i)) rfl (d_assign (v := (eN i)) rfl) ?_
      refine wpL.is (v := (eB (lb.getD i 0))) rfl (d_assign (v := (eB (lb.getD i 0))) rfl) ?_
      refine wpL.flat [u1, u2, undef, undef, (Value.slice none 0 0), (sli b 0 (max la.length lb.length) (max la.length lb.length)), (eN i), (eB (lb.getD i 0)), u1, (eN la.length), u2, (eN lb.length), (eN (max la.length lb.length)), (sli b 0 (max la.length lb.length) (max la.length lb.length)), (sli b 0 (max la.length lb.length) (max la.length lb.length)), u1, (eN la.length), u2, (eN lb.length), (eN i), (Value.bool (decide (i < lb.length))), (eN i), u11, (eB (lb.getD i 0)), (z 24), (z 25), (z 26), (z 27), (z 28), (z 29), (z 30), (z 31), undef, undef] (by kernel_rfl) ?_
      refine wpL.done ?_
      refine then_n ?_
      refine plain ?_
      refine wpL.is (v := (sli b 0 (max la.length lb.length) (max la.length lb.length))) rfl (d_move (v := (sli b 0 (max la.length lb.length) (max la.length lb.length))) rfl) ?_
      refine wpL.is (v := (eN i)) rfl (d_move (v := (eN i)) rfl) ?_
      refine wpL.is (v := (ptr b i)) rfl (d_index1 (n := (max la.length lb.length)) (i := i) Try.underlying23 s_ti5 rfl (show _ = Value.int _ ((i : Nat) : Int) from rfl) (by omega)) ?_
      refine wpL.flat [u1, u2, undef, undef, (Value.slice none 0 0), (sli b 0 (max la.length lb.length) (max la.length lb.length)), (eN i), (eB (lb.getD i 0)), u1, (eN la.length), u2, (eN lb.length), (eN (max la.length lb.length)), (sli b 0 (max la.length lb.length) (max la.length lb.length)), (sli b 0 (max la.length lb.length) (max la.length lb.length)), u1, (eN la.length), u2, (eN lb.length), (eN i), (Value.bool (decide (i < lb.length))), (eN i), u11, (eB (lb.getD i 0)), (sli b 0 (max la.length lb.length) (max la.length lb.length)), (eN i), (ptr b i), (z 27), (z 28), (z 29), (z 30), (z 31), undef, undef] (by kernel_rfl) ?_
      refine wpL.is (v := (eB ((padd la lb i).getD i 0))) rfl (d_load ⟨_, Try.underlying5, rfl⟩ rfl a6 (m_at (d := 0) (by rw [l_b]; omega))) ?_
      refine wpL.is (v := (eB (lb.getD i 0))) rfl (d_move (v := (eB (lb.getD i 0))) rfl) ?_
      refine wpL.is (v := (eB (((padd la lb i).getD i 0) ^^^ (lb.getD i 0)))) rfl (b_xor (c := ((padd la lb i).getD i 0)) (e := (lb.getD i 0)) rfl rfl) ?_
      refine wpL.flat [u1, u2, undef, undef, (Value.slice none 0 0), (sli b 0 (max la.length lb.length) (max la.length lb.length)), (eN i), (eB (lb.getD i 0)), u1, (eN la.length), u2, (eN lb.length), (eN (max la.length lb.length)), (sli b 0 (max la.length lb.length) (max la.length lb.length)), (sli b 0 (max la.length lb.length) (max la.length lb.length)), u1, (eN la.length), u2, (eN lb.length), (eN i), (Value.bool (decide (i < lb.length))), (eN i), u11, (eB (lb.getD i 0)), (sli b 0 (max la.length lb.length) (max la.length lb.length)), (eN i), (ptr b i), (eB ((padd la lb i).getD i 0)), (eB (lb.getD i 0)), (eB (((padd la lb i).getD i 0) ^^^ (lb.getD i 0))), (z 30), (z 31), undef, undef] (by kernel_rfl) ?_
      refine wpL.is (v := (ptr b i)) rfl (d_index1 (n := (max la.length lb.length)) (i := i) Try.underlying23 s_ti5 rfl (show _ = Value.int _ ((i : Nat) : Int) from rfl) (by omega)) ?_
      refine wpL.op rfl (d_store (b := b) (i := i) (v := (eB (((padd la lb i).getD i 0) ^^^ (lb.getD i 0)))) s_ti5 rfl rfl rfl a6 (by rw [List.length_map, l_b]; omega) (m_put (padd la lb i) i (((padd la lb i).getD i 0) ^^^ (lb.getD i 0)) eB)) ?_
      rintro _ w13 ⟨a14, o15⟩
      replace h1 := h1.stepb o15 in1
      replace h2 := h2.stepb o15 in1
      replace f12 := f12.stepb o15 in1
      replace oW := oW.tailb o15 g_oW_b
      replace o8 := o8.tail o15 (fun k _ e => by have : k = b := e; rw [this]; exact in1)
      replace l_b : ((padd la lb i).set i (((padd la lb i).getD i 0) ^^^ (lb.getD i 0))).length = max la.length lb.length := (List.length_set ..).trans l_b
      refine wpL.flat [u1, u2, undef, undef, (Value.slice none 0 0), (sli b 0 (max la.length lb.length) (max la.length lb.length)), (eN i), (eB (lb.getD i 0)), u1, (eN la.length), u2, (eN lb.length), (eN (max la.length lb.length)), (sli b 0 (max la.length lb.length) (max la.length lb.length)), (sli b 0 (max la.length lb.length) (max la.length lb.length)), u1, (eN la.length), u2, (eN lb.length), (eN i), (Value.bool (decide (i < lb.length))), (eN i), u11, (eB (lb.getD i 0)), (sli b 0 (max la.length lb.length) (max la.length lb.length)), (eN i), (ptr b i), (eB ((padd la lb i).getD i 0)), (eB (lb.getD i 0)), (eB (((padd la lb i).getD i 0) ^^^ (lb.getD i 0))), (ptr b i), (z 31), undef, undef] (by kernel_rfl) ?_
      refine wpL.done ?_
      refine inb_n (then_n ?_)
      refine plain ?_
      refine wpL.is (v := (eN (i + 1))) rfl (n_add (a := i) (b := 1) rfl rfl (by omega)) ?_
      refine wpL.is (v := (eN (i + 1))) rfl (d_move (v := (eN (i + 1))) rfl) ?_
      refine wpL.flat [u1, u2, undef, undef, (Value.slice none 0 0), (sli b 0 (max la.length lb.length) (max la.length lb.length)), (eN i), (eB (lb.getD i 0)), u1, (eN la.length), u2, (eN lb.length), (eN (max la.length lb.length)), (sli b 0 (max la.length lb.length) (max la.length lb.length)), (sli b 0 (max la.length lb.length) (max la.length lb.length)), u1, (eN la.length), u2, (eN lb.length), (eN (i + 1)), (Value.bool (decide (i < lb.length))), (eN i), u11, (eB (lb.getD i 0)), (sli b 0 (max la.length lb.length) (max la.length lb.length)), (eN i), (ptr b i), (eB ((padd la lb i).getD i 0)), (eB (lb.getD i 0)), (eB (((padd la lb i).getD i 0) ^^^ (lb.getD i 0))), (ptr b i), (eN (i + 1)), undef, undef] (by kernel_rfl) ?_
      refine wpL.done ?_
      refine then_n ?_
      refine ⟨_, (i + 1), rfl, rfl, ⟨?_, ?_, ?_, ?_⟩, ?_⟩
      · (try dsimp only)
        all_goals (omega)
      · (try dsimp only)
        all_goals (exact o8)
      · (try dsimp only)
        all_goals (exact padd_length la lb _)
      · (try dsimp only)
        all_goals (rw [← padd_step (by omega)]; exact a14)
      · (try dsimp only)
        all_goals (omega)
    · skip
      refine wpIn_exit ?_
      refine then_x (then_x (inb_e ?_))
      refine then_n ?_
      refine wpIn_seq ?_
      refine plain ?_
      refine wpL.is (v := (sli b 0 (max la.length lb.length) (max la.length lb.length))) rfl (d_move (v := (sli b 0 (max la.length lb.length) (max la.length lb.length))) rfl) ?_
      refine wpL.op rfl (d_call (xl := [.tmp 32]) (al := [(sli b 0 (max la.length lb.length) (max la.length lb.length))]) Try.func18 (by kernel_rfl) rfl rfl rfl (trim_ok (padd la lb i) (sli b 0 (max la.length lb.length) (max la.length lb.length)) _ (Ps.no (arr_seq a6 l_b (Nat.le_refl _))) (by have := padd_length la lb i; first | omega | (simp; done) | (simp; omega)))) ?_
      rintro u18 w16 f19
      obtain ⟨bo20, f19, g21, o17⟩ := f19
      have nq_r_b := nq_new g21 a6.lt
      have q_oW_r := qnew g21 oW.size
      have q_o8_r := qnew g21 o8.size
      replace h1 := h1.newq o17 g21
      replace h2 := h2.newq o17 g21
      replace a6 := a6.step0 o17
      replace oW := oW.tail0 o17
      replace o8 := o8.tail0 o17
      refine wpL.is (v := u18) rfl (d_assign (v := u18) rfl) ?_
      refine wpL.flat [u1, u2, undef, undef, u18, (sli b 0 (max la.length lb.length) (max la.length lb.length)), (z 6), (z 7), u1, (eN la.length), u2, (eN lb.length), (eN (max la.length lb.length)), (sli b 0 (max la.length lb.length) (max la.length lb.length)), (sli b 0 (max la.length lb.length) (max la.length lb.length)), u1, (eN la.length), u2, (eN lb.length), (eN i), (Value.bool (decide (i < lb.length))), (z 21), (z 22), (z 23), (z 24), (z 25), (z 26), (z 27), (z 28), (z 29), (z 30), (z 31), (sli b 0 (max la.length lb.length) (max la.length lb.length)), u18] (by kernel_rfl) ?_
      refine wpL.done ?_
      refine then_n ?_
      refine wpIn_ret ?_
      refine leave0 (v := u18) (res1 Try.results17 rfl) ?_
      exact ROw.mk_ f19 (by rw [show i = lb.length by omega]; exact padd_done la lb) q_oW_r oW

set_option maxRecDepth 20000 in
set_option maxHeartbeats 1000000 in
theorem ref3Trim_ok (la : List UInt8) (u1 : Value) (W : World) (h1 : Ps No (Seq kB la u1) W) (g1 : la.length ≤ 8388608) :
    CW Try.prog 25 #[u1] W (Rt (ROw 5 eB (trimL la) W)) := by
  have oW : Only No W W := Only.refl _ _
  refine enter (al := [u1]) (k := 22) (l := [u1, undef, undef, undef, undef, undef, undef, undef, undef, undef, undef, undef, undef, undef, undef, undef, undef, undef, undef, undef, undef, undef, undef]) Try.func25 rfl Try.ntmps25 rfl rfl ?_
  refine wpIn_seq ?_
  refine plain ?_
  refine wpL.is (v := (Value.slice none 0 0)) rfl (d_assign (v := (Value.slice none 0 0)) rfl) ?_
  refine wpL.flat [u1, undef, (Value.slice none 0 0), undef, undef, undef, undef, undef, undef, undef, undef, undef, undef, undef, undef, undef, undef, undef, undef, undef, undef, undef, undef] (by kernel_rfl) ?_
  refine wpL.done ?_
  refine then_n ?_
  refine wpIn_seq ?_
  refine plain ?_
  refine wpL.is (v := u1) rfl (d_move (v := u1) rfl) ?_
  refine wpL.is (v := (eN la.length)) rfl (d_lenS rfl Try.underlying23 rfl h1) ?_
  refine wpL.is (v := (eN la.length)) rfl (d_assign (v := (eN la.length)) rfl) ?_
  refine wpL.flat [u1, undef, (Value.slice none 0 0), (eN la.length), u1, (eN la.length), undef, undef, undef, undef, undef, undef, undef, undef, undef, undef, undef, undef, undef, undef, undef, undef, undef] (by kernel_rfl) ?_
  refine wpL.done ?_
  refine then_n ?_
  refine wpIn_seq ?_
  refine wpIn_block ?_
  refine loop2 (fun (n : (Nat)) => fun (z : Nat → Value) => ([u1, undef, (Value.slice none 0 0), (eN n), u1, (eN la.length), (z 6), (z 7), (z 8), (z 9), (z 10), (z 11), (z 12), (z 13), (z 14), (z 15), (z 16), (z 17), undef, undef, undef, undef, undef] : List Value)) (fun (n : (Nat)) => fun (w_ : World) => (n ≤ la.length) ∧ (tl la n = tlen la) ∧ Only No W w_) (fun (n : (Nat)) => n) la.length rfl ?_ ?_
  · refine ⟨?_, ?_, ?_⟩
    · (try dsimp only)
      all_goals (exact Nat.le_refl _)
    · (try dsimp only)
      all_goals (exact rfl)
    · (try dsimp only)
      all_goals (exact Only.refl _ _)
  · rintro n z w2 ⟨hn, hI, o1⟩
    (try dsimp only)
    replace h1 := h1.step o1 no_any
    replace oW := oW.tail o1 tl_no
    refine wpIn_seq ?_
    refine wpIn_seq ?_
    by_cases n0 : 0 < n
    · skip
      refine plain ?_
      refine wpL.is (v := (eN n)) rfl (d_move (v := (eN n)) rfl) ?_
      refine wpL.is (v := (Value.bool true)) rfl (n_gtr (a := n) (b := 0) rfl rfl (decide_eq_true n0)) ?_
      refine wpL.is (v := (Value.bool true)) rfl (d_move (v := (Value.bool true)) rfl) ?_
      refine wpL.flat [u1, undef, (Value.slice none 0 0), (eN n), u1, (eN la.length), (eN n), (Value.bool true), (Value.bool true), (z 9), (z 10), (z 11), (z 12), (z 13), (z 14), (z 15), (z 16), (z 17), undef, undef, undef, undef, undef] (by kernel_rfl) ?_
      refine wpL.onis (v := u1) rfl rfl rfl (Nat.le_of_ble_eq_true rfl) rfl (d_move (v := u1) rfl) ?_
      refine wpL.onis (v := (eN n)) rfl rfl rfl (Nat.le_of_ble_eq_true rfl) rfl (d_move (v := (eN n)) rfl) ?_
      refine wpL.onis (v := (eN (n - 1))) rfl rfl rfl (Nat.le_of_ble_eq_true rfl) rfl (n_sub (a := n) (b := 1) rfl rfl (by omega) (by omega)) ?_
      refine wpL.flat [u1, undef, (Value.slice none 0 0), (eN n), u1, (eN la.length), (eN n), (Value.bool true), (Value.bool true), u1, (eN n), (eN (n - 1)), (z 12), (z 13), (z 14), (z 15), (z 16), (z 17), undef, undef, undef, undef, undef] (by kernel_rfl) ?_
      refine wpL.on rfl rfl rfl (Nat.le_of_ble_eq_true rfl) rfl (d_indexS (q := kB) (xs := la) (v := (la.getD (n - 1) 0)) Try.underlying23 s_ti5 rfl h1 (show _ = Value.int _ ((n - 1 : Nat) : Int) from rfl) (by omega) (g_at (by first | omega | (simp; done) | (simp; omega)))) ?_
      rintro u3 _ ⟨f4, rfl⟩
      refine wpL.onis (v := (eB (la.getD (n - 1) 0))) rfl rfl rfl (Nat.le_of_ble_eq_true rfl) rfl (d_loadAt (enc := eB) (v := (la.getD (n - 1) 0)) ⟨_, Try.underlying5, rfl⟩ rfl f4) ?_
      refine wpL.onis (v := (Value.bool (decide (((la.getD (n - 1) 0) : UInt8) = (0 : UInt8))))) rfl rfl rfl (Nat.le_of_ble_eq_true rfl) rfl (b_eql (c := (la.getD (n - 1) 0)) (e := 0) rfl rfl rfl) ?_
      refine wpL.flat [u1, undef, (Value.slice none 0 0), (eN n), u1, (eN la.length), (eN n), (Value.bool true), (Value.bool true), u1, (eN n), (eN (n - 1)), u3, (eB (la.getD (n - 1) 0)), (Value.bool (decide (((la.getD (n - 1) 0) : UInt8) = (0 : UInt8)))), (z 15), (z 16), (z 17), undef, undef, undef, undef, undef] (by kernel_rfl) ?_
      refine wpL.is (v := (Value.bool (decide (((la.getD (n - 1) 0) : UInt8) = (0 : UInt8))))) rfl (d_pick (b := true) (v := (Value.bool (decide (((la.getD (n - 1) 0) : UInt8) = (0 : UInt8))))) rfl rfl) ?_
      refine wpL.flat [u1, undef, (Value.slice none 0 0), (eN n), u1, (eN la.length), (eN n), (Value.bool true), (Value.bool true), u1, (eN n), (eN (n - 1)), u3, (eB (la.getD (n - 1) 0)), (Value.bool (decide (((la.getD (n - 1) 0) : UInt8) = (0 : UInt8)))), (Value.bool (decide (((la.getD (n - 1) 0) : UInt8) = (0 : UInt8)))), (z 16), (z 17), undef, undef, undef, undef, undef] (by kernel_rfl) ?_
      refine wpL.done ?_
      refine then_n ?_
      refine cond_if rfl (fun k1 => ?_) (fun k1 => ?_)
      · skip
        refine wpIn_skip ?_
        refine then_n ?_
        refine wpIn_block ?_
        refine plain ?_
        refine wpL.is (v := (eN n)) rfl (d_move (v := (eN n)) rfl) ?_
        refine wpL.is (v := (eN (n - 1))) rfl (n_sub (a := n) (b := 1) rfl rfl (by omega) (by omega)) ?_
        refine wpL.is (v := (eN (n - 1))) rfl (d_assign (v := (eN (n - 1))) rfl) ?_
        refine wpL.flat [u1, undef, (Value.slice none 0 0), (eN (n - 1)), u1, (eN la.length), (eN n), (Value.bool true), (Value.bool true), u1, (eN n), (eN (n - 1)), u3, (eB (la.getD (n - 1) 0)), (Value.bool (decide (((la.getD (n - 1) 0) : UInt8) = (0 : UInt8)))), (Value.bool (decide (((la.getD (n - 1) 0) : UInt8) = (0 : UInt8)))), (eN n), (eN (n - 1)), undef, undef, undef, undef, undef] (by kernel_rfl) ?_
        refine wpL.done ?_
        refine inb_n (then_n ?_)
        refine ⟨_, (n - 1), rfl, rfl, ⟨?_, ?_, ?_⟩, ?_⟩
        · (try dsimp only)
          all_goals (omega)
        · (try dsimp only)
          all_goals (rw [← hI, tl_go' n0 k1])
        · (try dsimp only)
          all_goals (exact o1)
        · (try dsimp only)
          all_goals (omega)
      · skip
        refine wpIn_exit ?_
        refine then_x (then_x (inb_e ?_))
        refine then_n ?_
        refine wpIn_seq ?_
        refine plain ?_
        refine wpL.op rfl (d_buildL (cs := []) Try.underlying23 s_ti5 rfl (Nat.le_of_ble_eq_true rfl) parts_nil rfl) ?_
        rintro _ w6 ⟨b5, rfl, g7, a8, o9⟩
        replace a8 : Arr 5 b5 (([] : List UInt8).map eB) w6 := a8
        have l_b5 : ([] : List UInt8).length = 0 := rfl
        have g_oW_b5 : W.heap.size ≤ b5 := Nat.le_trans oW.size g7
        have g_o1_b5 : W.heap.size ≤ b5 := Nat.le_trans o1.size g7
        replace h1 := h1.new o9 g7
        replace f4 := f4.new o9 g7
        replace oW := oW.tail0 o9
        replace o1 := o1.tail0 o9
        refine wpL.is (v := u1) rfl (d_move (v := u1) rfl) ?_
        refine wpL.is (v := (eN n)) rfl (d_move (v := (eN n)) rfl) ?_
        refine wpL.flat [u1, undef, (Value.slice none 0 0), (eN n), u1, (eN la.length), (eN n), (Value.bool true), (Value.bool true), u1, (eN n), (eN (n - 1)), u3, (eB (la.getD (n - 1) 0)), (Value.bool (decide (((la.getD (n - 1) 0) : UInt8) = (0 : UInt8)))), (Value.bool (decide (((la.getD (n - 1) 0) : UInt8) = (0 : UInt8)))), (z 16), (z 17), (sli b5 0 0 0), u1, (eN n), undef, undef] (by kernel_rfl) ?_
        refine wpL.op rfl (d_sliceS (xs := la) (ys := (la.take n)) (l := 0) (h := n) Try.underlying23 s_ti5 rfl h1 Bd.none (Bd.some (l := n) (k := .i64) rfl) (by omega) (by omega) (by simp)) ?_
        rintro u10 _ ⟨f11, rfl⟩
        have a13 := Ow.of_map2 a8 l_b5
        have q_oW_row12 : Fr (some b5) none W.heap.size := Fr.new g_oW_b5
        have q_o1_row12 : Fr (some b5) none W.heap.size := Fr.new g_o1_b5
        replace h1 := h1.less (Y := (Orq (some b5) No)) (xx_br xx_id)
        replace f4 := f4.less (Y := (Orq (some b5) No)) (xx_br xx_id)
        replace f11 := f11.less (Y := (Orq (some b5) No)) (xx_br xx_id)
        refine wpL.op rfl (d_append Try.underlying23 Try.underlying23 s_ti5 rfl rfl rfl a13 (SrcV.of_seq f11 (fun _ => rfl)) (by simp only [List.length_take, List.length_nil]; omega) (by simp only [List.length_take, List.length_nil]; omega) rfl) ?_
        rintro u14 w15 ⟨bo16, a17, o18, q19⟩
        replace a17 : Ow 5 1 bo16 u14 (([] : List UInt8) ++ (la.take n)).length ((([] : List UInt8) ++ (la.take n)).map eB) w15 := by rw [List.length_append, List.map_append]; exact a17
        replace h1 := h1.gr o18 (fun k e => (.inl e)) (xx_re (Fr.of_or q19) xx_id)
        replace f4 := f4.gr o18 (fun k e => (.inl e)) (xx_re (Fr.of_or q19) xx_id)
        replace f11 := f11.gr o18 (fun k e => (.inl e)) (xx_re (Fr.of_or q19) xx_id)
        have tq := oW.size
        replace oW := oW.tailr o18 q_oW_row12 (fun _ e => by cases e)
        replace q_oW_row12 := qtr (Fr.of_or q19) q_oW_row12 tq
        clear tq
        have tq := o1.size
        replace o1 := o1.tailr o18 q_o1_row12 (fun _ e => by cases e)
        replace q_o1_row12 := qtr (Fr.of_or q19) q_o1_row12 tq
        clear tq
        refine wpL.is (v := u14) rfl (d_assign (v := u14) rfl) ?_
        refine wpL.flat [u1, undef, u14, (eN n), u1, (eN la.length), (eN n), (Value.bool true), (Value.bool true), u1, (eN n), (eN (n - 1)), u3, (eB (la.getD (n - 1) 0)), (Value.bool (decide (((la.getD (n - 1) 0) : UInt8) = (0 : UInt8)))), (Value.bool (decide (((la.getD (n - 1) 0) : UInt8) = (0 : UInt8)))), (z 16), (z 17), (sli b5 0 0 0), u1, (eN n), u10, u14] (by kernel_rfl) ?_
        refine wpL.done ?_
        refine then_n ?_
        refine wpIn_ret ?_
        refine leave0 (v := u14) (res1 Try.results25 rfl) ?_
        rw [tl_stay' n0 k1] at hI
        exact ROw.mk_ a17 (by rw [hI]; rfl) q_oW_row12 oW
    · skip
      refine plain ?_
      refine wpL.is (v := (eN n)) rfl (d_move (v := (eN n)) rfl) ?_
      refine wpL.is (v := (Value.bool false)) rfl (n_gtr (a := n) (b := 0) rfl rfl (decide_eq_false n0)) ?_
      refine wpL.is (v := (Value.bool false)) rfl (d_move (v := (Value.bool false)) rfl) ?_
      refine wpL.flat [u1, undef, (Value.slice none 0 0), (eN n), u1, (eN la.length), (eN n), (Value.bool false), (Value.bool false), (z 9), (z 10), (z 11), (z 12), (z 13), (z 14), (z 15), (z 16), (z 17), undef, undef, undef, undef, undef] (by kernel_rfl) ?_
      refine wpL.off rfl rfl rfl (Nat.le_of_ble_eq_true rfl) rfl ?_
      refine wpL.off rfl rfl rfl (Nat.le_of_ble_eq_true rfl) rfl ?_
      refine wpL.flat [u1, undef, (Value.slice none 0 0), (eN n), u1, (eN la.length), (eN n), (Value.bool false), (Value.bool false), undef, undef, (z 11), (z 12), (z 13), (z 14), (z 15), (z 16), (z 17), undef, undef, undef, undef, undef] (by kernel_rfl) ?_
      refine wpL.off rfl rfl rfl (Nat.le_of_ble_eq_true rfl) rfl ?_
      refine wpL.off rfl rfl rfl (Nat.le_of_ble_eq_true rfl) rfl ?_
      refine wpL.off rfl rfl rfl (Nat.le_of_ble_eq_true rfl) rfl ?_
      refine wpL.flat [u1, undef, (Value.slice none 0 0), (eN n), u1, (eN la.length), (eN n), (Value.bool false), (Value.bool false), undef, undef, undef, undef, undef, (z 14), (z 15), (z 16), (z 17), undef, undef, undef, undef, undef] (by kernel_rfl) ?_
      refine wpL.off rfl rfl rfl (Nat.le_of_ble_eq_true rfl) rfl ?_
      refine wpL.is (v := (Value.bool false)) rfl (d_pick (b := false) (v := (Value.bool false)) rfl rfl) ?_
      refine wpL.flat [u1, undef, (Value.slice none 0 0), (eN n), u1, (eN la.length), (eN n), (Value.bool false), (Value.bool false), undef, undef, undef, undef, undef, undef, (Value.bool false), (z 16), (z 17), undef, undef, undef, undef, undef] (by kernel_rfl) ?_
      refine wpL.done ?_
      refine then_n ?_
      refine cond_f rfl ?_
      refine wpIn_exit ?_
      refine then_x (then_x (inb_e ?_))
      refine then_n ?_
      refine wpIn_seq ?_
      refine plain ?_
      refine wpL.op rfl (d_buildL (cs := []) Try.underlying23 s_ti5 rfl (Nat.le_of_ble_eq_true rfl) parts_nil rfl) ?_
      rintro _ w21 ⟨b20, rfl, g22, a23, o24⟩
      replace a23 : Arr 5 b20 (([] : List UInt8).map eB) w21 := a23
      have l_b20 : ([] : List UInt8).length = 0 := rfl
      have g_oW_b20 : W.heap.size ≤ b20 := Nat.le_trans oW.size g22
      have g_o1_b20 : W.heap.size ≤ b20 := Nat.le_trans o1.size g22
      replace h1 := h1.new o24 g22
      replace oW := oW.tail0 o24
      replace o1 := o1.tail0 o24
      refine wpL.is (v := u1) rfl (d_move (v := u1) rfl) ?_
      refine wpL.is (v := (eN n)) rfl (d_move (v := (eN n)) rfl) ?_
      refine wpL.flat [u1, undef, (Value.slice none 0 0), (eN n), u1, (eN la.length), (eN n), (Value.bool false), (Value.bool false), undef, undef, undef, undef, undef, undef, (Value.bool false), (z 16), (z 17), (sli b20 0 0 0), u1, (eN n), undef, undef] (by kernel_rfl) ?_
      refine wpL.op rfl (d_sliceS (xs := la) (ys := (la.take n)) (l := 0) (h := n) Try.underlying23 s_ti5 rfl h1 Bd.none (Bd.some (l := n) (k := .i64) rfl) (by omega) (by omega) (by simp)) ?_
      rintro u25 _ ⟨f26, rfl⟩
      have a28 := Ow.of_map2 a23 l_b20
      have q_oW_row27 : Fr (some b20) none W.heap.size := Fr.new g_oW_b20
      have q_o1_row27 : Fr (some b20) none W.heap.size := Fr.new g_o1_b20
      replace h1 := h1.less (Y := (Orq (some b20) No)) (xx_br xx_id)
      replace f26 := f26.less (Y := (Orq (some b20) No)) (xx_br xx_id)
      refine wpL.op rfl (d_append Try.underlying23 Try.underlying23 s_ti5 rfl rfl rfl a28 (SrcV.of_seq f26 (fun _ => rfl)) (by simp only [List.length_take, List.length_nil]; omega) (by simp only [List.length_take, List.length_nil]; omega) rfl) ?_
      rintro u29 w30 ⟨bo31, a32, o33, q34⟩
      replace a32 : Ow 5 1 bo31 u29 (([] : List UInt8) ++ (la.take n)).length ((([] : List UInt8) ++ (la.take n)).map eB) w30 := by rw [List.length_append, List.map_append]; exact a32
      replace h1 := h1.gr o33 (fun k e => (.inl e)) (xx_re (Fr.of_or q34) xx_id)
      replace f26 := f26.gr o33 (fun k e => (.inl e)) (xx_re (Fr.of_or q34) xx_id)
      have tq := oW.size
      replace oW := oW.tailr o33 q_oW_row27 (fun _ e => by cases e)
      replace q_oW_row27 := qtr (Fr.of_or q34) q_oW_row27 tq
      clear tq
      have tq := o1.size
      replace o1 := o1.tailr o33 q_o1_row27 (fun _ e => by cases e)
      replace q_o1_row27 := qtr (Fr.of_or q34) q_o1_row27 tq
      clear tq
      refine wpL.is (v := u29) rfl (d_assign (v := u29) rfl) ?_
      refine wpL.flat [u1, undef, u29, (eN n), u1, (eN la.length), (eN n), (Value.bool false), (Value.bool false), undef, undef, undef, undef, undef, undef, (Value.bool false), (z 16), (z 17), (sli b20 0 0 0), u1, (eN n), u25, u29] (by kernel_rfl) ?_
      refine wpL.done ?_
      refine then_n ?_
      refine wpIn_ret ?_
      refine leave0 (v := u29) (res1 Try.results25 rfl) ?_
      obtain rfl : n = 0 := by omega
      rw [show tl la 0 = 0 from rfl] at hI
      exact ROw.mk_ a32 (by rw [hI]; rfl) q_oW_row27 oW

set_option maxRecDepth 20000 in
set_option maxHeartbeats 1000000 in
theorem ref3Mul_ok (la lb : List UInt8) (u1 u2 : Value) (W : World) (h1 : Ps No (Seq kB la u1) W) (h2 : Ps No (Seq kB lb u2) W) (g1 : la.length ≤ 1048576) (g2 : lb.length ≤ 1048576) :
    CW Try.prog 24 #[u1, u2] W (Rt (ROw 5 eB (mulP la lb) W)) := by
  have oW : Only No W W := Only.refl _ _
  refine enter (al := [u1, u2]) (k := 47) (l := [u1, u2, undef, undef, undef, undef, undef, undef, undef, undef, undef, undef, undef, undef, undef, undef, undef, undef, undef, undef, undef, undef, undef, undef, undef, undef, undef, undef, undef, undef, undef, undef, undef, undef, undef, undef, undef, undef, undef, undef, undef, undef, undef, undef, undef, undef, undef, undef, undef]) Try.func24 rfl Try.ntmps24 rfl rfl ?_
  refine wpIn_seq ?_
  refine plain ?_
  refine wpL.is (v := (Value.slice none 0 0)) rfl (d_assign (v := (Value.slice none 0 0)) rfl) ?_
  refine wpL.flat [u1, u2, undef, undef, (Value.slice none 0 0), undef, undef, undef, undef, undef, undef, undef, undef, undef, undef, undef, undef, undef, undef, undef, undef, undef, undef, undef, undef, undef, undef, undef, undef, undef, undef, undef, undef, undef, undef, undef, undef, undef, undef, undef, undef, undef, undef, undef, undef, undef, undef, undef, undef] (by kernel_rfl) ?_
  refine wpL.done ?_
  refine then_n ?_
  refine wpIn_seq ?_
  refine plain ?_
  refine wpL.is (v := u1) rfl (d_move (v := u1) rfl) ?_
  refine wpL.is (v := (eN la.length)) rfl (d_lenS rfl Try.underlying23 rfl h1) ?_
  refine wpL.is (v := u2) rfl (d_move (v := u2) rfl) ?_
  refine wpL.flat [u1, u2, undef, undef, (Value.slice none 0 0), undef, undef, undef, u1, (eN la.length), u2, undef, undef, undef, undef, undef, undef, undef, undef, undef, undef, undef, undef, undef, undef, undef, undef, undef, undef, undef, undef, undef, undef, undef, undef, undef, undef, undef, undef, undef, undef, undef, undef, undef, undef, undef, undef, undef, undef] (by kernel_rfl) ?_
  refine wpL.is (v := (eN lb.length)) rfl (d_lenS rfl Try.underlying23 rfl h2) ?_
  refine wpL.is (v := (eN (la.length + lb.length))) rfl (n_add (a := la.length) (b := lb.length) rfl rfl (by omega)) ?_
  refine wpL.op rfl (d_make1 (n := la.length + lb.length) Try.underlying23 s_ti5 rfl rfl (by omega) (by omega) rfl) ?_
  rintro _ w1 ⟨b, rfl, g2, a3, o4⟩
  replace a3 : Arr 5 b ((List.replicate (la.length + lb.length) 0).map eB) w1 := by rw [List.map_replicate]; exact a3
  have l_b : (List.replicate (la.length + lb.length) 0 : List UInt8).length = la.length + lb.length := by simp
  have g_oW_b : W.heap.size ≤ b := Nat.le_trans oW.size g2
  replace h1 := h1.new o4 g2
  replace h2 := h2.new o4 g2
  replace oW := oW.tail0 o4
  refine wpL.flat [u1, u2, undef, undef, (Value.slice none 0 0), undef, undef, undef, u1, (eN la.length), u2, (eN lb.length), (eN (la.length + lb.length)), (sli b 0 (la.length + lb.length) (la.length + lb.length)), undef, undef, undef, undef, undef, undef, undef, undef, undef, undef, undef, undef, undef, undef, undef, undef, undef, undef, undef, undef, undef, undef, undef, undef, undef, undef, undef, undef, undef, undef, undef, undef, undef, undef, undef] (by kernel_rfl) ?_
  refine wpL.is (v := (sli b 0 (la.length + lb.length) (la.length + lb.length))) rfl (d_assign (v := (sli b 0 (la.length + lb.length) (la.length + lb.length))) rfl) ?_
  refine wpL.flat [u1, u2, undef, undef, (Value.slice none 0 0), (sli b 0 (la.length + lb.length) (la.length + lb.length)), undef, undef, u1, (eN la.length), u2, (eN lb.length), (eN (la.length + lb.length)), (sli b 0 (la.length + lb.length) (la.length + lb.length)), undef, undef, undef, undef, undef, undef, undef, undef, undef, undef, undef, undef, undef, undef, undef, undef, undef, undef, undef, undef, undef, undef, undef, undef, undef, undef, undef, undef, undef, undef, undef, undef, undef, undef, undef] (by kernel_rfl) ?_
  refine wpL.done ?_
  refine then_n ?_
  refine wpIn_seq ?_
  refine wpIn_seq ?_
  refine plain ?_
  refine wpL.is (v := (eN 0)) rfl (d_assign (v := (eN 0)) rfl) ?_
  refine wpL.flat [u1, u2, undef, undef, (Value.slice none 0 0), (sli b 0 (la.length + lb.length) (la.length + lb.length)), (eN 0), undef, u1, (eN la.length), u2, (eN lb.length), (eN (la.length + lb.length)), (sli b 0 (la.length + lb.length) (la.length + lb.length)), undef, undef, undef, undef, undef, undef, undef, undef, undef, undef, undef, undef, undef, undef, undef, undef, undef, undef, undef, undef, undef, undef, undef, undef, undef, undef, undef, undef, undef, undef, undef, undef, undef, undef, undef] (by kernel_rfl) ?_
  refine wpL.done ?_
  refine then_n ?_
  refine wpIn_block ?_
  refine loop2 (fun (i : (Nat)) => fun (z : Nat → Value) => ([u1, u2, undef, undef, (Value.slice none 0 0), (sli b 0 (la.length + lb.length) (la.length + lb.length)), (eN i), (z 7), u1, (eN la.length), u2, (eN lb.length), (eN (la.length + lb.length)), (sli b 0 (la.length + lb.length) (la.length + lb.length)), (z 14), (z 15), (z 16), (z 17), (z 18), (z 19), (z 20), (z 21), (z 22), (z 23), (z 24), (z 25), (z 26), (z 27), (z 28), (z 29), (z 30), (z 31), (z 32), (z 33), (z 34), (z 35), (z 36), (z 37), (z 38), (z 39), (z 40), (z 41), (z 42), (z 43), (z 44), (z 45), (z 46), undef, undef] : List Value)) (fun (i : (Nat)) => fun (w_ : World) => (i ≤ la.length) ∧ Only (Or1 b No) w1 w_ ∧ (pmul la lb i 0).length = la.length + lb.length ∧ Arr 5 b ((pmul la lb i 0).map eB) w_) (fun (i : (Nat)) => la.length - i) 0 rfl ?_ ?_
  · refine ⟨?_, ?_, ?_, ?_⟩
    · (try dsimp only)
      all_goals (exact Nat.zero_le _)
    · (try dsimp only)
      all_goals (exact Only.refl _ _)
    · (try dsimp only)
      all_goals (exact pmul_length la lb 0 0)
    · (try dsimp only)
      all_goals (rw [← pmul_zero]; exact a3)
  · rintro i z w6 ⟨hi, o5, l_b, a3⟩
    (try dsimp only)
    replace h1 := h1.step o5 (or1_mono no_any)
    replace h2 := h2.step o5 (or1_mono no_any)
    replace oW := oW.tail o5 (tl_new g_oW_b tl_no)
    refine wpIn_seq ?_
    refine wpIn_seq ?_
    refine plain ?_
    refine wpL.is (v := (eN i)) rfl (d_move (v := (eN i)) rfl) ?_
    refine wpL.is (v := u1) rfl (d_move (v := u1) rfl) ?_
    refine wpL.is (v := (eN la.length)) rfl (d_lenS rfl Try.underlying23 rfl h1) ?_
    refine wpL.flat [u1, u2, undef, undef, (Value.slice none 0 0), (sli b 0 (la.length + lb.length) (la.length + lb.length)), (eN i), (z 7), u1, (eN la.length), u2, (eN lb.length), (eN (la.length + lb.length)), (sli b 0 (la.length + lb.length) (la.length + lb.length)), (eN i), u1, (eN la.length), (z 17), (z 18), (z 19), (z 20), (z 21), (z 22), (z 23), (z 24), (z 25), (z 26), (z 27), (z 28), (z 29), (z 30), (z 31), (z 32), (z 33), (z 34), (z 35), (z 36), (z 37), (z 38), (z 39), (z 40), (z 41), (z 42), (z 43), (z 44), (z 45), (z 46), undef, undef] (by kernel_rfl) ?_
    refine wpL.is (v := (Value.bool (decide (i < la.length)))) rfl (n_lss (a := i) (b := la.length) rfl rfl rfl) ?_
    refine wpL.flat [u1, u2, undef, undef, (Value.slice none 0 0), (sli b 0 (la.length + lb.length) (la.length + lb.length)), (eN i), (z 7), u1, (eN la.length), u2, (eN lb.length), (eN (la.length + lb.length)), (sli b 0 (la.length + lb.length) (la.length + lb.length)), (eN i), u1, (eN la.length), (Value.bool (decide (i < la.length))), (z 18), (z 19), (z 20), (z 21), (z 22), (z 23), (z 24), (z 25), (z 26), (z 27), (z 28), (z 29), (z 30), (z 31), (z 32), (z 33), (z 34), (z 35), (z 36), (z 37), (z 38), (z 39), (z 40), (z 41), (z 42), (z 43), (z 44), (z 45), (z 46), undef, undef] (by kernel_rfl) ?_
    refine wpL.done ?_
    refine then_n ?_
    refine cond_if rfl (fun c7 => ?_) (fun c7 => ?_)
    · skip
      refine wpIn_skip ?_
      refine then_n ?_
      refine wpIn_seq ?_
      refine wpIn_block ?_
      refine wpIn_seq ?_
      refine plain ?_
      refine wpL.is (v := (eN 0)) rfl (d_assign (v := (eN 0)) rfl) ?_
      refine wpL.flat [u1, u2, undef, undef, (Value.slice none 0 0), (sli b 0 (la.length + lb.length) (la.length + lb.length)), (eN i), (eN 0), u1, (eN la.length), u2, (eN lb.length), (eN (la.length + lb.length)), (sli b 0 (la.length + lb.length) (la.length + lb.length)), (eN i), u1, (eN la.length), (Value.bool (decide (i < la.length))), (z 18), (z 19), (z 20), (z 21), (z 22), (z 23), (z 24), (z 25), (z 26), (z 27), (z 28), (z 29), (z 30), (z 31), (z 32), (z 33), (z 34), (z 35), (z 36), (z 37), (z 38), (z 39), (z 40), (z 41), (z 42), (z 43), (z 44), (z 45), (z 46), undef, undef] (by kernel_rfl) ?_
      refine wpL.done ?_
      refine then_n ?_
      refine wpIn_block ?_
      refine loop2 (fun (k : (Nat)) => fun (z : Nat → Value) => ([u1, u2, undef, undef, (Value.slice none 0 0), (sli b 0 (la.length + lb.length) (la.length + lb.length)), (eN i), (eN k), u1, (eN la.length), u2, (eN lb.length), (eN (la.length + lb.length)), (sli b 0 (la.length + lb.length) (la.length + lb.length)), (eN i), u1, (eN la.length), (Value.bool (decide (i < la.length))), (z 18), (z 19), (z 20), (z 21), (z 22), (z 23), (z 24), (z 25), (z 26), (z 27), (z 28), (z 29), (z 30), (z 31), (z 32), (z 33), (z 34), (z 35), (z 36), (z 37), (z 38), (z 39), (z 40), (z 41), (z 42), (z 43), (z 44), (z 45), (z 46), undef, undef] : List Value)) (fun (k : (Nat)) => fun (w_ : World) => (k ≤ lb.length) ∧ Only (Or1 b No) w6 w_ ∧ (pmul la lb i k).length = la.length + lb.length ∧ Arr 5 b ((pmul la lb i k).map eB) w_) (fun (k : (Nat)) => lb.length - k) 0 rfl ?_ ?_
      · refine ⟨?_, ?_, ?_, ?_⟩
        · (try dsimp only)
          all_goals (exact Nat.zero_le _)
        · (try dsimp only)
          all_goals (exact Only.refl _ _)
        · (try dsimp only)
          all_goals (exact l_b)
        · (try dsimp only)
          all_goals (exact a3)
      · rintro k z w9 ⟨hk, o8, l_b, a3⟩
        (try dsimp only)
        replace h1 := h1.step o8 (or1_mono no_any)
        replace h2 := h2.step o8 (or1_mono no_any)
        replace oW := oW.tail o8 (tl_new g_oW_b tl_no)
        replace o5 := o5.tail o8 (tl_in in1 tl_no)
        refine wpIn_seq ?_
        refine wpIn_seq ?_
        refine plain ?_
        refine wpL.is (v := (eN k)) rfl (d_move (v := (eN k)) rfl) ?_
        refine wpL.is (v := u2) rfl (d_move (v := u2) rfl) ?_
        refine wpL.is (v := (eN lb.length)) rfl (d_lenS rfl Try.underlying23 rfl h2) ?_
        refine wpL.flat [u1, u2, undef, undef, (Value.slice none 0 0), (sli b 0 (la.length + lb.length) (la.length + lb.length)), (eN i), (eN k), u1, (eN la.length), u2, (eN lb.length), (eN (la.length + lb.length)), (sli b 0 (la.length + lb.length) (la.length + lb.length)), (eN i), u1, (eN la.length), (Value.bool (decide (i < la.length))), (z 18), (z 19), (eN k), u2, (eN lb.length), (z 23), (z 24), (z 25), (z 26), (z 27), (z 28), (z 29), (z 30), (z 31), (z 32), (z 33), (z 34), (z 35), (z 36), (z 37), (z 38), (z 39), (z 40), (z 41), (z 42), (z 43), (z 44), (z 45), (z 46), undef, undef] (by kernel_rfl) ?_
        refine wpL.is (v := (Value.bool (decide (k < lb.length)))) rfl (n_lss (a := k) (b := lb.length) rfl rfl rfl) ?_
        refine wpL.flat [u1, u2, undef, undef, (Value.slice none 0 0), (sli b 0 (la.length + lb.length) (la.length + lb.length)), (eN i), (eN k), u1, (eN la.length), u2, (eN lb.length), (eN (la.length + lb.length)), (sli b 0 (la.length + lb.length) (la.length + lb.length)), (eN i), u1, (eN la.length), (Value.bool (decide (i < la.length))), (z 18), (z 19), (eN k), u2, (eN lb.length), (Value.bool (decide (k < lb.length))), (z 24), (z 25), (z 26), (z 27), (z 28), (z 29), (z 30), (z 31), (z 32), (z 33), (z 34), (z 35), (z 36), (z 37), (z 38), (z 39), (z 40), (z 41), (z 42), (z 43), (z 44), (z 45), (z 46), undef, undef] (by kernel_rfl) ?_
        refine wpL.done ?_
        refine then_n ?_
        refine cond_if rfl (fun c10 => ?_) (fun c10 => ?_)
        · skip
          refine wpIn_skip ?_
          refine then_n ?_
          refine wpIn_seq ?_
          refine wpIn_block ?_
          refine drawn' (O := (Or1 b No)) (n := 22) [0, 0, 0, 6, 0, 0, 0, 96, 240, 496, 0, 0, 3072, 7168, 0, 0, 49152, 114688, 261120, 524272, 1048575, 2097151] [(0, 26), (1, 27), (2, 28), (3, 29), (4, 30), (5, 31), (6, 32), (7, 33), (8, 34), (9, 35), (10, 36), (11, 37), (12, 38), (13, 39), (14, 40), (15, 41), (16, 42), (17, 43), (18, 44), (19, 45), (20, 46)] [0, 1, 2, 3, 4, 5, 6, 7, 8, 9, 10, 11, 12, 13, 14, 15, 16, 17, 18, 19, 20] [21] (fun i_ => ([RF.is (Or1 b No) (sli b 0 (la.length + lb.length) (la.length + lb.length)), RF.is (Or1 b No) (eN i), RF.is (Or1 b No) (eN k), RF.is (Or1 b No) (eN (i + k)), RF.is (Or1 b No) (sli b 0 (la.length + lb.length) (la.length + lb.length)), RF.is (Or1 b No) (eN i), RF.is (Or1 b No) (eN k), RF.is (Or1 b No) (eN (i + k)), RF.is (Or1 b No) (ptr b (i + k)), RF.is (Or1 b No) (eB ((pmul la lb i k).getD (i + k) 0)), RF.is (Or1 b No) u1, RF.is (Or1 b No) (eN i), RF.ps (Or1 b No) (Or1 b No) (At kB (la.getD i 0)) (or1_mono no_any), RF.is (Or1 b No) (eB (la.getD i 0)), RF.is (Or1 b No) u2, RF.is (Or1 b No) (eN k), RF.ps (Or1 b No) (Or1 b No) (At kB (lb.getD k 0)) (or1_mono no_any), RF.is (Or1 b No) (eB (lb.getD k 0)), RF.is (Or1 b No) (eB (gm (la.getD i 0) (lb.getD k 0))), RF.is (Or1 b No) (eB (((pmul la lb i k).getD (i + k) 0) ^^^ (gm (la.getD i 0) (lb.getD k 0)))), RF.is (Or1 b No) (ptr b (i + k)), RF.any (Or1 b No)] : List (RF (Or1 b No))).getD i_ (RF.any (Or1 b No))) (fun k_ w_ => match k_ with | 0 => Arr 5 b ((pmul la lb i k).map eB) w_ | _ => Arr 5 b (((pmul la lb i k).set (i + k) (((pmul la lb i k).getD (i + k) 0) ^^^ (gm (la.getD i 0) (lb.getD k 0)))).map eB) w_) (fun v11 => [u1, u2, undef, undef, (Value.slice none 0 0), (sli b 0 (la.length + lb.length) (la.length + lb.length)), (eN i), (eN k), u1, (eN la.length), u2, (eN lb.length), (eN (la.length + lb.length)), (sli b 0 (la.length + lb.length) (la.length + lb.length)), (eN i), u1, (eN la.length), (Value.bool (decide (i < la.length))), (z 18), (z 19), (eN k), u2, (eN lb.length), (Value.bool (decide (k < lb.length))), (z 24), (z 25), (v11 0), (v11 1), (v11 2), (v11 3), (v11 4), (v11 5), (v11 6), (v11 7), (v11 8), (v11 9), (v11 10), (v11 11), (v11 12), (v11 13), (v11 14), (v11 15), (v11 16), (v11 17), (v11 18), (v11 19), (v11 20), undef, undef]) s_mx (by kernel_rfl) rfl (by decide) (by rfl) (fun v_ => by kernel_rfl) (fun k_ => match k_ with | 0 => fun w_ w2_ h ho => by have r_a3 := h; exact r_a3.step0 ho | (_ + 1) => fun w_ w2_ h ho => by have r_a3 := h; exact r_a3.step0 ho) a3 ?_ ?_ ?_
          · skip
            refine ls_cons ?_ ?_
            · intro v11 lo hi w_ k_ hO hd _ _ hk_ _ hR hold
              obtain rfl : k_ = 0 := Nat.le_zero.1 (hk_ 0 (by decide) (by kernel_rfl))
              have r_a3 := hR
              clear hd hold
              refine ⟨_, rfl, gd rfl ?_⟩
              exact Does.is (d_move (v := (sli b 0 (la.length + lb.length) (la.length + lb.length))) rfl)
            refine ls_cons ?_ ?_
            · intro v11 lo hi w_ k_ hO hd _ _ hk_ _ hR hold
              obtain rfl : k_ = 0 := Nat.le_zero.1 (hk_ 0 (by decide) (by kernel_rfl))
              have r_a3 := hR
              clear hd hold
              refine ⟨_, rfl, gd rfl ?_⟩
              exact Does.is (d_move (v := (eN i)) rfl)
            refine ls_cons ?_ ?_
            · intro v11 lo hi w_ k_ hO hd _ _ hk_ _ hR hold
              obtain rfl : k_ = 0 := Nat.le_zero.1 (hk_ 0 (by decide) (by kernel_rfl))
              have r_a3 := hR
              clear hd hold
              refine ⟨_, rfl, gd rfl ?_⟩
              exact Does.is (d_move (v := (eN k)) rfl)
            refine ls_cons ?_ ?_
            · intro v11 lo hi w_ k_ hO hd _ _ hk_ _ hR hold
              obtain rfl : k_ = 0 := Nat.le_zero.1 (hk_ 0 (by decide) (by kernel_rfl))
              have r_a3 := hR
              have e1 : v11 1 = (eN i) := hd 1 (by kernel_rfl)
              have e2 : v11 2 = (eN k) := hd 2 (by kernel_rfl)
              clear hd hold
              refine ⟨_, rfl, gd rfl ?_⟩
              exact Does.is (n_add (a := i) (b := k) e1 e2 (by omega))
            refine ls_cons ?_ ?_
            · intro v11 lo hi w_ k_ hO hd _ _ hk_ _ hR hold
              obtain rfl : k_ = 0 := Nat.le_zero.1 (hk_ 0 (by decide) (by kernel_rfl))
              have r_a3 := hR
              clear hd hold
              refine ⟨_, rfl, gd rfl ?_⟩
              exact Does.is (d_move (v := (sli b 0 (la.length + lb.length) (la.length + lb.length))) rfl)
            refine ls_cons ?_ ?_
            · intro v11 lo hi w_ k_ hO hd _ _ hk_ _ hR hold
              obtain rfl : k_ = 0 := Nat.le_zero.1 (hk_ 0 (by decide) (by kernel_rfl))
              have r_a3 := hR
              clear hd hold
              refine ⟨_, rfl, gd rfl ?_⟩
              exact Does.is (d_move (v := (eN i)) rfl)
            refine ls_cons ?_ ?_
            · intro v11 lo hi w_ k_ hO hd _ _ hk_ _ hR hold
              obtain rfl : k_ = 0 := Nat.le_zero.1 (hk_ 0 (by decide) (by kernel_rfl))
              have r_a3 := hR
              clear hd hold
              refine ⟨_, rfl, gd rfl ?_⟩
              exact Does.is (d_move (v := (eN k)) rfl)
            refine ls_cons ?_ ?_
            · intro v11 lo hi w_ k_ hO hd _ _ hk_ _ hR hold
              obtain rfl : k_ = 0 := Nat.le_zero.1 (hk_ 0 (by decide) (by kernel_rfl))
              have r_a3 := hR
              have e5 : v11 5 = (eN i) := hd 5 (by kernel_rfl)
              have e6 : v11 6 = (eN k) := hd 6 (by kernel_rfl)
              clear hd hold
              refine ⟨_, rfl, gd rfl ?_⟩
              exact Does.is (n_add (a := i) (b := k) e5 e6 (by omega))
            refine ls_cons ?_ ?_
            · intro v11 lo hi w_ k_ hO hd _ _ hk_ _ hR hold
              obtain rfl : k_ = 0 := Nat.le_zero.1 (hk_ 0 (by decide) (by kernel_rfl))
              have r_a3 := hR
              have e4 : v11 4 = (sli b 0 (la.length + lb.length) (la.length + lb.length)) := hd 4 (by kernel_rfl)
              have e7 : v11 7 = (eN (i + k)) := hd 7 (by kernel_rfl)
              clear hd hold
              refine ⟨_, rfl, gd rfl ?_⟩
              exact Does.is (d_index1 (n := (la.length + lb.length)) (i := (i + k)) Try.underlying23 s_ti5 e4 (show _ = Value.int _ ((i + k : Nat) : Int) from e7) (by omega))
            refine ls_cons ?_ ?_
            · intro v11 lo hi w_ k_ hO hd _ _ hk_ _ hR hold
              obtain rfl : k_ = 0 := Nat.le_zero.1 (hk_ 0 (by decide) (by kernel_rfl))
              have r_a3 := hR
              have e8 : v11 8 = (ptr b (i + k)) := hd 8 (by kernel_rfl)
              clear hd hold
              refine ⟨_, rfl, gd rfl ?_⟩
              exact Does.is (d_load ⟨_, Try.underlying5, rfl⟩ e8 r_a3 (m_at (d := 0) (by rw [l_b]; omega)))
            refine ls_cons ?_ ?_
            · intro v11 lo hi w_ k_ hO hd _ _ hk_ _ hR hold
              obtain rfl : k_ = 0 := Nat.le_zero.1 (hk_ 0 (by decide) (by kernel_rfl))
              have r_a3 := hR
              clear hd hold
              refine ⟨_, rfl, gd rfl ?_⟩
              exact Does.is (d_move (v := u1) rfl)
            refine ls_cons ?_ ?_
            · intro v11 lo hi w_ k_ hO hd _ _ hk_ _ hR hold
              obtain rfl : k_ = 0 := Nat.le_zero.1 (hk_ 0 (by decide) (by kernel_rfl))
              have r_a3 := hR
              clear hd hold
              refine ⟨_, rfl, gd rfl ?_⟩
              exact Does.is (d_move (v := (eN i)) rfl)
            refine ls_cons ?_ ?_
            · intro v11 lo hi w_ k_ hO hd _ _ hk_ _ hR hold
              obtain rfl : k_ = 0 := Nat.le_zero.1 (hk_ 0 (by decide) (by kernel_rfl))
              have r_a3 := hR
              have e10 : v11 10 = u1 := hd 10 (by kernel_rfl)
              have e11 : v11 11 = (eN i) := hd 11 (by kernel_rfl)
              clear hd hold
              refine ⟨_, rfl, gd rfl ?_⟩
              refine Does.mono (d_indexS (q := kB) (xs := la) (v := (la.getD i 0)) Try.underlying23 s_ti5 e10 (h1.step hO (or1_mono no_any)) (show _ = Value.int _ ((i : Nat) : Int) from e11) (by omega) (g_at (by first | omega | (simp; done) | (simp; omega)))) (fun u w' h => ⟨h.2 ▸ h.1, h.2 ▸ Only.refl _ _⟩)
            refine ls_cons ?_ ?_
            · intro v11 lo hi w_ k_ hO hd _ _ hk_ _ hR hold
              obtain rfl : k_ = 0 := Nat.le_zero.1 (hk_ 0 (by decide) (by kernel_rfl))
              have r_a3 := hR
              have d12 : Ps (Or1 b No) (At kB (la.getD i 0) (v11 12)) w_ := hd 12 (by kernel_rfl)
              clear hd hold
              refine ⟨_, rfl, gd rfl ?_⟩
              exact Does.is (d_loadAt (enc := eB) (v := (la.getD i 0)) ⟨_, Try.underlying5, rfl⟩ rfl d12)
            refine ls_cons ?_ ?_
            · intro v11 lo hi w_ k_ hO hd _ _ hk_ _ hR hold
              obtain rfl : k_ = 0 := Nat.le_zero.1 (hk_ 0 (by decide) (by kernel_rfl))
              have r_a3 := hR
              clear hd hold
              refine ⟨_, rfl, gd rfl ?_⟩
              exact Does.is (d_move (v := u2) rfl)
            refine ls_cons ?_ ?_
            · intro v11 lo hi w_ k_ hO hd _ _ hk_ _ hR hold
              obtain rfl : k_ = 0 := Nat.le_zero.1 (hk_ 0 (by decide) (by kernel_rfl))
              have r_a3 := hR
              clear hd hold
              refine ⟨_, rfl, gd rfl ?_⟩
              exact Does.is (d_move (v := (eN k)) rfl)
            refine ls_cons ?_ ?_
            · intro v11 lo hi w_ k_ hO hd _ _ hk_ _ hR hold
              obtain rfl : k_ = 0 := Nat.le_zero.1 (hk_ 0 (by decide) (by kernel_rfl))
              have r_a3 := hR
              have e14 : v11 14 = u2 := hd 14 (by kernel_rfl)
              have e15 : v11 15 = (eN k) := hd 15 (by kernel_rfl)
              clear hd hold
              refine ⟨_, rfl, gd rfl ?_⟩
              refine Does.mono (d_indexS (q := kB) (xs := lb) (v := (lb.getD k 0)) Try.underlying23 s_ti5 e14 (h2.step hO (or1_mono no_any)) (show _ = Value.int _ ((k : Nat) : Int) from e15) (by omega) (g_at (by first | omega | (simp; done) | (simp; omega)))) (fun u w' h => ⟨h.2 ▸ h.1, h.2 ▸ Only.refl _ _⟩)
            refine ls_cons ?_ ?_
            · intro v11 lo hi w_ k_ hO hd _ _ hk_ _ hR hold
              obtain rfl : k_ = 0 := Nat.le_zero.1 (hk_ 0 (by decide) (by kernel_rfl))
              have r_a3 := hR
              have d16 : Ps (Or1 b No) (At kB (lb.getD k 0) (v11 16)) w_ := hd 16 (by kernel_rfl)
              clear hd hold
              refine ⟨_, rfl, gd rfl ?_⟩
              exact Does.is (d_loadAt (enc := eB) (v := (lb.getD k 0)) ⟨_, Try.underlying5, rfl⟩ rfl d16)
            refine ls_cons ?_ ?_
            · intro v11 lo hi w_ k_ hO hd _ _ hk_ _ hR hold
              obtain rfl : k_ = 0 := Nat.le_zero.1 (hk_ 0 (by decide) (by kernel_rfl))
              have r_a3 := hR
              have e13 : v11 13 = (eB (la.getD i 0)) := hd 13 (by kernel_rfl)
              have e17 : v11 17 = (eB (lb.getD k 0)) := hd 17 (by kernel_rfl)
              clear hd hold
              refine ⟨_, rfl, gd rfl ?_⟩
              exact d_call (xl := [.tmp 39, .tmp 43]) (al := [(eB (la.getD i 0)), (eB (lb.getD k 0))]) Try.func20 (by kernel_rfl) rfl (show ([(v11 13), (v11 17)] : List Value) = [(eB (la.getD i 0)), (eB (lb.getD k 0))] from by rw [e13, e17]) rfl (ref2Mul_ok (la.getD i 0) (lb.getD k 0) _)
            refine ls_cons ?_ ?_
            · intro v11 lo hi w_ k_ hO hd _ _ hk_ _ hR hold
              obtain rfl : k_ = 0 := Nat.le_zero.1 (hk_ 0 (by decide) (by kernel_rfl))
              have r_a3 := hR
              have e18 : v11 18 = (eB (gm (la.getD i 0) (lb.getD k 0))) := hd 18 (by kernel_rfl)
              have e9 : v11 9 = (eB ((pmul la lb i k).getD (i + k) 0)) := hd 9 (by kernel_rfl)
              clear hd hold
              refine ⟨_, rfl, gd rfl ?_⟩
              exact Does.is (b_xor (c := ((pmul la lb i k).getD (i + k) 0)) (e := (gm (la.getD i 0) (lb.getD k 0))) e9 e18)
            refine ls_cons ?_ ?_
            · intro v11 lo hi w_ k_ hO hd _ _ hk_ _ hR hold
              obtain rfl : k_ = 0 := Nat.le_zero.1 (hk_ 0 (by decide) (by kernel_rfl))
              have r_a3 := hR
              have e0 : v11 0 = (sli b 0 (la.length + lb.length) (la.length + lb.length)) := hd 0 (by kernel_rfl)
              have e3 : v11 3 = (eN (i + k)) := hd 3 (by kernel_rfl)
              clear hd hold
              refine ⟨_, rfl, gd rfl ?_⟩
              exact Does.is (d_index1 (n := (la.length + lb.length)) (i := (i + k)) Try.underlying23 s_ti5 e0 (show _ = Value.int _ ((i + k : Nat) : Int) from e3) (by omega))
            exact ls_nil
          · skip
            refine ms_one ?_
            · intro v11 lo hi w_ hO hd _ hR hold
              have r_a3 := hR
              have e19 : v11 19 = (eB (((pmul la lb i k).getD (i + k) 0) ^^^ (gm (la.getD i 0) (lb.getD k 0)))) := hd 19 (by kernel_rfl)
              have e20 : v11 20 = (ptr b (i + k)) := hd 20 (by kernel_rfl)
              clear hd hold
              refine ⟨_, rfl, gd rfl ?_⟩
              refine Does.mono (d_store (b := b) (i := (i + k)) (v := (eB (((pmul la lb i k).getD (i + k) 0) ^^^ (gm (la.getD i 0) (lb.getD k 0))))) s_ti5 e20 e19 rfl r_a3 (by rw [List.length_map, l_b]; omega) (m_put (pmul la lb i k) (i + k) (((pmul la lb i k).getD (i + k) 0) ^^^ (gm (la.getD i 0) (lb.getD k 0))) eB)) (fun u w' h => ⟨trivial, h.1, h.2.mono (fun k _ e => by have : k = b := e; rw [this]; exact in1)⟩)
          intro v11 lo_ hi_ w12 o13 hd iv_ hR
          have e0 : v11 0 = (sli b 0 (la.length + lb.length) (la.length + lb.length)) := hd 0 (by decide)
          have e1 : v11 1 = (eN i) := hd 1 (by decide)
          have e2 : v11 2 = (eN k) := hd 2 (by decide)
          have e3 : v11 3 = (eN (i + k)) := hd 3 (by decide)
          have e4 : v11 4 = (sli b 0 (la.length + lb.length) (la.length + lb.length)) := hd 4 (by decide)
          have e5 : v11 5 = (eN i) := hd 5 (by decide)
          have e6 : v11 6 = (eN k) := hd 6 (by decide)
          have e7 : v11 7 = (eN (i + k)) := hd 7 (by decide)
          have e8 : v11 8 = (ptr b (i + k)) := hd 8 (by decide)
          have e9 : v11 9 = (eB ((pmul la lb i k).getD (i + k) 0)) := hd 9 (by decide)
          have e10 : v11 10 = u1 := hd 10 (by decide)
          have e11 : v11 11 = (eN i) := hd 11 (by decide)
          have e13 : v11 13 = (eB (la.getD i 0)) := hd 13 (by decide)
          have e14 : v11 14 = u2 := hd 14 (by decide)
          have e15 : v11 15 = (eN k) := hd 15 (by decide)
          have e17 : v11 17 = (eB (lb.getD k 0)) := hd 17 (by decide)
          have e18 : v11 18 = (eB (gm (la.getD i 0) (lb.getD k 0))) := hd 18 (by decide)
          have e19 : v11 19 = (eB (((pmul la lb i k).getD (i + k) 0) ^^^ (gm (la.getD i 0) (lb.getD k 0)))) := hd 19 (by decide)
          have e20 : v11 20 = (ptr b (i + k)) := hd 20 (by decide)
          have f_v11_12 : Ps (Or1 b No) (At kB (la.getD i 0) (v11 12)) w12 := hd 12 (by decide)
          have f_v11_16 : Ps (Or1 b No) (At kB (lb.getD k 0) (v11 16)) w12 := hd 16 (by decide)
          clear hd iv_ lo_ hi_
          refine fr_eq (l' := [u1, u2, undef, undef, (Value.slice none 0 0), (sli b 0 (la.length + lb.length) (la.length + lb.length)), (eN i), (eN k), u1, (eN la.length), u2, (eN lb.length), (eN (la.length + lb.length)), (sli b 0 (la.length + lb.length) (la.length + lb.length)), (eN i), u1, (eN la.length), (Value.bool (decide (i < la.length))), (z 18), (z 19), (eN k), u2, (eN lb.length), (Value.bool (decide (k < lb.length))), (z 24), (z 25), (sli b 0 (la.length + lb.length) (la.length + lb.length)), (eN i), (eN k), (eN (i + k)), (sli b 0 (la.length + lb.length) (la.length + lb.length)), (eN i), (eN k), (eN (i + k)), (ptr b (i + k)), (eB ((pmul la lb i k).getD (i + k) 0)), u1, (eN i), (v11 12), (eB (la.getD i 0)), u2, (eN k), (v11 16), (eB (lb.getD k 0)), (eB (gm (la.getD i 0) (lb.getD k 0))), (eB (((pmul la lb i k).getD (i + k) 0) ^^^ (gm (la.getD i 0) (lb.getD k 0)))), (ptr b (i + k)), undef, undef]) (by rw [e0, e1, e2, e3, e4, e5, e6, e7, e8, e9, e10, e11, e13, e14, e15, e17, e18, e19, e20]) ?_
          clear e0 e1 e2 e3 e4 e5 e6 e7 e8 e9 e10 e11 e13 e14 e15 e17 e18 e19 e20
          replace h1 := h1.step o13 (or1_mono no_any)
          replace h2 := h2.step o13 (or1_mono no_any)
          replace a3 : Arr 5 b (((pmul la lb i k).set (i + k) (((pmul la lb i k).getD (i + k) 0) ^^^ (gm (la.getD i 0) (lb.getD k 0)))).map eB) w12 := hR
          clear hR
          replace l_b : ((pmul la lb i k).set (i + k) (((pmul la lb i k).getD (i + k) 0) ^^^ (gm (la.getD i 0) (lb.getD k 0)))).length = la.length + lb.length := (List.length_set ..).trans l_b
          replace oW := oW.tail o13 (tl_new g_oW_b tl_no)
          replace o5 := o5.tail o13 (tl_in in1 tl_no)
          replace o8 := o8.tail o13 (tl_in in1 tl_no)
          refine inb_n (then_n ?_)
          refine plain ?_
          refine wpL.is (v := (eN k)) rfl (d_move (v := (eN k)) rfl) ?_
          refine wpL.is (v := (eN (k + 1))) rfl (n_add (a := k) (b := 1) rfl rfl (by omega)) ?_
          refine wpL.is (v := (eN (k + 1))) rfl (d_assign (v := (eN (k + 1))) rfl) ?_
          refine wpL.flat [u1, u2, undef, undef, (Value.slice none 0 0), (sli b 0 (la.length + lb.length) (la.length + lb.length)), (eN i), (eN (k + 1)), u1, (eN la.length), u2, (eN lb.length), (eN (la.length + lb.length)), (sli b 0 (la.length + lb.length) (la.length + lb.length)), (eN i), u1, (eN la.length), (Value.bool (decide (i < la.length))), (z 18), (z 19), (eN k), u2, (eN lb.length), (Value.bool (decide (k < lb.length))), (eN k), (eN (k + 1)), (sli b 0 (la.length + lb.length) (la.length + lb.length)), (eN i), (eN k), (eN (i + k)), (sli b 0 (la.length + lb.length) (la.length + lb.length)), (eN i), (eN k), (eN (i + k)), (ptr b (i + k)), (eB ((pmul la lb i k).getD (i + k) 0)), u1, (eN i), (v11 12), (eB (la.getD i 0)), u2, (eN k), (v11 16), (eB (lb.getD k 0)), (eB (gm (la.getD i 0) (lb.getD k 0))), (eB (((pmul la lb i k).getD (i + k) 0) ^^^ (gm (la.getD i 0) (lb.getD k 0)))), (ptr b (i + k)), undef, undef] (by kernel_rfl) ?_
          refine wpL.done ?_
          refine then_n ?_
          refine ⟨_, (k + 1), rfl, rfl, ⟨?_, ?_, ?_, ?_⟩, ?_⟩
          · (try dsimp only)
            all_goals (omega)
          · (try dsimp only)
            all_goals (exact o8)
          · (try dsimp only)
            all_goals (exact pmul_length la lb _ _)
          · (try dsimp only)
            all_goals (rw [← pmul_step (by omega) (by omega)]; exact a3)
          · (try dsimp only)
            all_goals (omega)
        · skip
          refine wpIn_exit ?_
          refine then_x (then_x (inb_e ?_))
          refine inb_n (then_n ?_)
          refine plain ?_
          refine wpL.is (v := (eN i)) rfl (d_move (v := (eN i)) rfl) ?_
          refine wpL.is (v := (eN (i + 1))) rfl (n_add (a := i) (b := 1) rfl rfl (by omega)) ?_
          refine wpL.is (v := (eN (i + 1))) rfl (d_assign (v := (eN (i + 1))) rfl) ?_
          refine wpL.flat [u1, u2, undef, undef, (Value.slice none 0 0), (sli b 0 (la.length + lb.length) (la.length + lb.length)), (eN (i + 1)), (eN k), u1, (eN la.length), u2, (eN lb.length), (eN (la.length + lb.length)), (sli b 0 (la.length + lb.length) (la.length + lb.length)), (eN i), u1, (eN la.length), (Value.bool (decide (i < la.length))), (eN i), (eN (i + 1)), (eN k), u2, (eN lb.length), (Value.bool (decide (k < lb.length))), (z 24), (z 25), (z 26), (z 27), (z 28), (z 29), (z 30), (z 31), (z 32), (z 33), (z 34), (z 35), (z 36), (z 37), (z 38), (z 39), (z 40), (z 41), (z 42), (z 43), (z 44), (z 45), (z 46), undef, undef] (by kernel_rfl) ?_
          refine wpL.done ?_
          refine then_n ?_
          refine ⟨_, (i + 1), rfl, rfl, ⟨?_, ?_, ?_, ?_⟩, ?_⟩
          · (try dsimp only)
            all_goals (omega)
          · (try dsimp only)
            all_goals (exact o5)
          · (try dsimp only)
            all_goals (exact pmul_length la lb _ _)
          · (try dsimp only)
            all_goals (rw [← pmul_next (by omega), show lb.length = k by omega]; exact a3)
          · (try dsimp only)
            all_goals (omega)
    · skip
      refine wpIn_exit ?_
      refine then_x (then_x (inb_e ?_))
      refine then_n ?_
      refine wpIn_seq ?_
      refine plain ?_
      refine wpL.is (v := (sli b 0 (la.length + lb.length) (la.length + lb.length))) rfl (d_move (v := (sli b 0 (la.length + lb.length) (la.length + lb.length))) rfl) ?_
      refine wpL.op rfl (d_call (xl := [.tmp 47]) (al := [(sli b 0 (la.length + lb.length) (la.length + lb.length))]) Try.func25 (by kernel_rfl) rfl rfl rfl (ref3Trim_ok (pmul la lb i 0) (sli b 0 (la.length + lb.length) (la.length + lb.length)) _ (Ps.no (arr_seq a3 l_b (Nat.le_refl _))) (by have := pmul_length la lb i 0; first | omega | (simp; done) | (simp; omega)))) ?_
      rintro u16 w14 f17
      obtain ⟨bo18, f17, g19, o15⟩ := f17
      have nq_r_b := nq_new g19 a3.lt
      have q_oW_r := qnew g19 oW.size
      have q_o5_r := qnew g19 o5.size
      replace h1 := h1.newq o15 g19
      replace h2 := h2.newq o15 g19
      replace a3 := a3.step0 o15
      replace oW := oW.tail0 o15
      replace o5 := o5.tail0 o15
      refine wpL.is (v := u16) rfl (d_assign (v := u16) rfl) ?_
      refine wpL.flat [u1, u2, undef, undef, u16, (sli b 0 (la.length + lb.length) (la.length + lb.length)), (eN i), (z 7), u1, (eN la.length), u2, (eN lb.length), (eN (la.length + lb.length)), (sli b 0 (la.length + lb.length) (la.length + lb.length)), (eN i), u1, (eN la.length), (Value.bool (decide (i < la.length))), (z 18), (z 19), (z 20), (z 21), (z 22), (z 23), (z 24), (z 25), (z 26), (z 27), (z 28), (z 29), (z 30), (z 31), (z 32), (z 33), (z 34), (z 35), (z 36), (z 37), (z 38), (z 39), (z 40), (z 41), (z 42), (z 43), (z 44), (z 45), (z 46), (sli b 0 (la.length + lb.length) (la.length + lb.length)), u16] (by kernel_rfl) ?_
      refine wpL.done ?_
      refine then_n ?_
      refine wpIn_ret ?_
      refine leave0 (v := u16) (res1 Try.results24 rfl) ?_
      exact ROw.mk_ f17 (by rw [show i = la.length by omega]; exact pmul_done la lb) q_oW_r oW

set_option maxRecDepth 20000 in
set_option maxHeartbeats 1000000 in
theorem ref3Add_ok (la lb : List UInt8) (u1 u2 : Value) (W : World) (h1 : Ps No (Seq kB la u1) W) (h2 : Ps No (Seq kB lb u2) W) (g1 : la.length ≤ 1048576) (g2 : lb.length ≤ 1048576) :
    CW Try.prog 23 #[u1, u2] W (Rt (ROw 5 eB (addP la lb) W)) := by
  have oW : Only No W W := Only.refl _ _
  refine enter (al := [u1, u2]) (k := 45) (l := [u1, u2, undef, undef, undef, undef, undef, undef, undef, undef, undef, undef, undef, undef, undef, undef, undef, undef, undef, undef, undef, undef, undef, undef, undef, undef, undef, undef, undef, undef, undef, undef, undef, undef, undef, undef, undef, undef, undef, undef, undef, undef, undef, undef, undef, undef, undef]) Try.func23 rfl Try.ntmps23 rfl rfl ?_
  refine wpIn_seq ?_
  refine plain ?_
  refine wpL.is (v := (Value.slice none 0 0)) rfl (d_assign (v := (Value.slice none 0 0)) rfl) ?_
  refine wpL.flat [u1, u2, undef, undef, (Value.slice none 0 0), undef, undef, undef, undef, undef, undef, undef, undef, undef, undef, undef, undef, undef, undef, undef, undef, undef, undef, undef, undef, undef, undef, undef, undef, undef, undef, undef, undef, undef, undef, undef, undef, undef, undef, undef, undef, undef, undef, undef, undef, undef, undef] (by kernel_rfl) ?_
  refine wpL.done ?_
  refine then_n ?_
  refine wpIn_seq ?_
  refine plain ?_
  refine wpL.is (v := u1) rfl (d_move (v := u1) rfl) ?_
  refine wpL.is (v := (eN la.length)) rfl (d_lenS rfl Try.underlying23 rfl h1) ?_
  refine wpL.is (v := u2) rfl (d_move (v := u2) rfl) ?_
  refine wpL.flat [u1, u2, undef, undef, (Value.slice none 0 0), undef, undef, undef, u1, (eN la.length), u2, undef, undef, undef, undef, undef, undef, undef, undef, undef, undef, undef, undef, undef, undef, undef, undef, undef, undef, undef, undef, undef, undef, undef, undef, undef, undef, undef, undef, undef, undef, undef, undef, undef, undef, undef, undef] (by kernel_rfl) ?_
  refine wpL.is (v := (eN lb.length)) rfl (d_lenS rfl Try.underlying23 rfl h2) ?_
  refine wpL.is (v := (eN (max la.length lb.length))) rfl (n_max rfl rfl) ?_
  refine wpL.op rfl (d_make1 (n := max la.length lb.length) Try.underlying23 s_ti5 rfl rfl (by omega) (by omega) rfl) ?_
  rintro _ w1 ⟨b, rfl, g2, a3, o4⟩
  replace a3 : Arr 5 b ((List.replicate (max la.length lb.length) 0).map eB) w1 := by rw [List.map_replicate]; exact a3
  have l_b : (List.replicate (max la.length lb.length) 0 : List UInt8).length = max la.length lb.length := by simp
  have g_oW_b : W.heap.size ≤ b := Nat.le_trans oW.size g2
  replace h1 := h1.new o4 g2
  replace h2 := h2.new o4 g2
  replace oW := oW.tail0 o4
  refine wpL.flat [u1, u2, undef, undef, (Value.slice none 0 0), undef, undef, undef, u1, (eN la.length), u2, (eN lb.length), (eN (max la.length lb.length)), (sli b 0 (max la.length lb.length) (max la.length lb.length)), undef, undef, undef, undef, undef, undef, undef, undef, undef, undef, undef, undef, undef, undef, undef, undef, undef, undef, undef, undef, undef, undef, undef, undef, undef, undef, undef, undef, undef, undef, undef, undef, undef] (by kernel_rfl) ?_
  refine wpL.is (v := (sli b 0 (max la.length lb.length) (max la.length lb.length))) rfl (d_assign (v := (sli b 0 (max la.length lb.length) (max la.length lb.length))) rfl) ?_
  refine wpL.flat [u1, u2, undef, undef, (Value.slice none 0 0), (sli b 0 (max la.length lb.length) (max la.length lb.length)), undef, undef, u1, (eN la.length), u2, (eN lb.length), (eN (max la.length lb.length)), (sli b 0 (max la.length lb.length) (max la.length lb.length)), undef, undef, undef, undef, undef, undef, undef, undef, undef, undef, undef, undef, undef, undef, undef, undef, undef, undef, undef, undef, undef, undef, undef, undef, undef, undef, undef, undef, undef, undef, undef, undef, undef] (by kernel_rfl) ?_
  refine wpL.done ?_
  refine then_n ?_
  refine wpIn_seq ?_
  refine wpIn_seq ?_
  refine plain ?_
  refine wpL.is (v := (eN 0)) rfl (d_assign (v := (eN 0)) rfl) ?_
  refine wpL.flat [u1, u2, undef, undef, (Value.slice none 0 0), (sli b 0 (max la.length lb.length) (max la.length lb.length)), (eN 0), undef, u1, (eN la.length), u2, (eN lb.length), (eN (max la.length lb.length)), (sli b 0 (max la.length lb.length) (max la.length lb.length)), undef, undef, undef, undef, undef, undef, undef, undef, undef, undef, undef, undef, undef, undef, undef, undef, undef, undef, undef, undef, undef, undef, undef, undef, undef, undef, undef, undef, undef, undef, undef, undef, undef] (by kernel_rfl) ?_
  refine wpL.done ?_
  refine then_n ?_
  refine wpIn_block ?_
  refine loop2 (fun (j : (Nat)) => fun (z : Nat → Value) => ([u1, u2, undef, undef, (Value.slice none 0 0), (sli b 0 (max la.length lb.length) (max la.length lb.length)), (eN j), undef, u1, (eN la.length), u2, (eN lb.length), (eN (max la.length lb.length)), (sli b 0 (max la.length lb.length) (max la.length lb.length)), (z 14), (z 15), (z 16), (z 17), (z 18), (z 19), (z 20), (z 21), (z 22), (z 23), (z 24), (z 25), (z 26), undef, undef, undef, undef, undef, undef, undef, undef, undef, undef, undef, undef, undef, undef, undef, undef, undef, undef, undef, undef] : List Value)) (fun (j : (Nat)) => fun (w_ : World) => (j ≤ la.length) ∧ Only (Or1 b No) w1 w_ ∧ (pcopy la lb j).length = max la.length lb.length ∧ Arr 5 b ((pcopy la lb j).map eB) w_) (fun (j : (Nat)) => la.length - j) 0 rfl ?_ ?_
  · refine ⟨?_, ?_, ?_, ?_⟩
    · (try dsimp only)
      all_goals (exact Nat.zero_le _)
    · (try dsimp only)
      all_goals (exact Only.refl _ _)
    · (try dsimp only)
      all_goals (exact pcopy_length la lb 0)
    · (try dsimp only)
      all_goals (rw [← pcopy_zero]; exact a3)
  · rintro j z w6 ⟨hj, o5, l_b, a3⟩
    (try dsimp only)
    replace h1 := h1.step o5 (or1_mono no_any)
    replace h2 := h2.step o5 (or1_mono no_any)
    replace oW := oW.tail o5 (tl_new g_oW_b tl_no)
    refine wpIn_seq ?_
    refine wpIn_seq ?_
    refine plain ?_
    refine wpL.is (v := (eN j)) rfl (d_move (v := (eN j)) rfl) ?_
    refine wpL.is (v := u1) rfl (d_move (v := u1) rfl) ?_
    refine wpL.is (v := (eN la.length)) rfl (d_lenS rfl Try.underlying23 rfl h1) ?_
    refine wpL.flat [u1, u2, undef, undef, (Value.slice none 0 0), (sli b 0 (max la.length lb.length) (max la.length lb.length)), (eN j), undef, u1, (eN la.length), u2, (eN lb.length), (eN (max la.length lb.length)), (sli b 0 (max la.length lb.length) (max la.length lb.length)), (eN j), u1, (eN la.length), (z 17), (z 18), (z 19), (z 20), (z 21), (z 22), (z 23), (z 24), (z 25), (z 26), undef, undef, undef, undef, undef, undef, undef, undef, undef, undef, undef, undef, undef, undef, undef, undef, undef, undef, undef, undef] (by kernel_rfl) ?_
    refine wpL.is (v := (Value.bool (decide (j < la.length)))) rfl (n_lss (a := j) (b := la.length) rfl rfl rfl) ?_
    refine wpL.flat [u1, u2, undef, undef, (Value.slice none 0 0), (sli b 0 (max la.length lb.length) (max la.length lb.length)), (eN j), undef, u1, (eN la.length), u2, (eN lb.length), (eN (max la.length lb.length)), (sli b 0 (max la.length lb.length) (max la.length lb.length)), (eN j), u1, (eN la.length), (Value.bool (decide (j < la.length))), (z 18), (z 19), (z 20), (z 21), (z 22), (z 23), (z 24), (z 25), (z 26), undef, undef, undef, undef, undef, undef, undef, undef, undef, undef, undef, undef, undef, undef, undef, undef, undef, undef, undef, undef] (by kernel_rfl) ?_
    refine wpL.done ?_
    refine then_n ?_
    refine cond_if rfl (fun c7 => ?_) (fun c7 => ?_)
    · skip
      refine wpIn_skip ?_
      refine then_n ?_
      refine wpIn_seq ?_
      refine wpIn_block ?_
      refine plain ?_
      refine wpL.is (v := (sli b 0 (max la.length lb.length) (max la.length lb.length))) rfl (d_move (v := (sli b 0 (max la.length lb.length) (max la.length lb.length))) rfl) ?_
      refine wpL.is (v := (eN j)) rfl (d_move (v := (eN j)) rfl) ?_
      refine wpL.is (v := u1) rfl (d_move (v := u1) rfl) ?_
      refine wpL.flat [u1, u2, undef, undef, (Value.slice none 0 0), (sli b 0 (max la.length lb.length) (max la.length lb.length)), (eN j), undef, u1, (eN la.length), u2, (eN lb.length), (eN (max la.length lb.length)), (sli b 0 (max la.length lb.length) (max la.length lb.length)), (eN j), u1, (eN la.length), (Value.bool (decide (j < la.length))), (z 18), (z 19), (sli b 0 (max la.length lb.length) (max la.length lb.length)), (eN j), u1, (z 23), (z 24), (z 25), (z 26), undef, undef, undef, undef, undef, undef, undef, undef, undef, undef, undef, undef, undef, undef, undef, undef, undef, undef, undef, undef] (by kernel_rfl) ?_
      refine wpL.is (v := (eN j)) rfl (d_move (v := (eN j)) rfl) ?_
      refine wpL.op rfl (d_indexS (q := kB) (xs := la) (v := (la.getD j 0)) Try.underlying23 s_ti5 rfl h1 (show _ = Value.int _ ((j : Nat) : Int) from rfl) (by omega) (g_at (by first | omega | (simp; done) | (simp; omega)))) ?_
      rintro u8 _ ⟨f9, rfl⟩
      refine wpL.is (v := (eB (la.getD j 0))) rfl (d_loadAt (enc := eB) (v := (la.getD j 0)) ⟨_, Try.underlying5, rfl⟩ rfl f9) ?_
      refine wpL.flat [u1, u2, undef, undef, (Value.slice none 0 0), (sli b 0 (max la.length lb.length) (max la.length lb.length)), (eN j), undef, u1, (eN la.length), u2, (eN lb.length), (eN (max la.length lb.length)), (sli b 0 (max la.length lb.length) (max la.length lb.length)), (eN j), u1, (eN la.length), (Value.bool (decide (j < la.length))), (z 18), (z 19), (sli b 0 (max la.length lb.length) (max la.length lb.length)), (eN j), u1, (eN j), u8, (eB (la.getD j 0)), (z 26), undef, undef, undef, undef, undef, undef, undef, undef, undef, undef, undef, undef, undef, undef, undef, undef, undef, undef, undef, undef] (by kernel_rfl) ?_
      refine wpL.is (v := (ptr b j)) rfl (d_index1 (n := (max la.length lb.length)) (i := j) Try.underlying23 s_ti5 rfl (show _ = Value.int _ ((j : Nat) : Int) from rfl) (by omega)) ?_
      refine wpL.op rfl (d_store (b := b) (i := j) (v := (eB (la.getD j 0))) s_ti5 rfl rfl rfl a3 (by rw [List.length_map, l_b]; omega) (m_put (pcopy la lb j) j (la.getD j 0) eB)) ?_
      rintro _ w10 ⟨a11, o12⟩
      replace h1 := h1.stepb o12 in1
      replace h2 := h2.stepb o12 in1
      replace f9 := f9.stepb o12 in1
      replace oW := oW.tailb o12 g_oW_b
      replace o5 := o5.tail o12 (fun k _ e => by have : k = b := e; rw [this]; exact in1)
      replace l_b : ((pcopy la lb j).set j (la.getD j 0)).length = max la.length lb.length := (List.length_set ..).trans l_b
      refine wpL.flat [u1, u2, undef, undef, (Value.slice none 0 0), (sli b 0 (max la.length lb.length) (max la.length lb.length)), (eN j), undef, u1, (eN la.length), u2, (eN lb.length), (eN (max la.length lb.length)), (sli b 0 (max la.length lb.length) (max la.length lb.length)), (eN j), u1, (eN la.length), (Value.bool (decide (j < la.length))), (z 18), (z 19), (sli b 0 (max la.length lb.length) (max la.length lb.length)), (eN j), u1, (eN j), u8, (eB (la.getD j 0)), (ptr b j), undef, undef, undef, undef, undef, undef, undef, undef, undef, undef, undef, undef, undef, undef, undef, undef, undef, undef, undef, undef] (by kernel_rfl) ?_
      refine wpL.done ?_
      refine inb_n (then_n ?_)
      refine plain ?_
      refine wpL.is (v := (eN j)) rfl (d_move (v := (eN j)) rfl) ?_
      refine wpL.is (v := (eN (j + 1))) rfl (n_add (a := j) (b := 1) rfl rfl (by omega)) ?_
      refine wpL.is (v := (eN (j + 1))) rfl (d_assign (v := (eN (j + 1))) rfl) ?_
      refine wpL.flat [u1, u2, undef, undef, (Value.slice none 0 0), (sli b 0 (max la.length lb.length) (max la.length lb.length)), (eN (j + 1)), undef, u1, (eN la.length), u2, (eN lb.length), (eN (max la.length lb.length)), (sli b 0 (max la.length lb.length) (max la.length lb.length)), (eN j), u1, (eN la.length), (Value.bool (decide (j < la.length))), (eN j), (eN (j + 1)), (sli b 0 (max la.length lb.length) (max la.length lb.length)), (eN j), u1, (eN j), u8, (eB (la.getD j 0)), (ptr b j), undef, undef, undef, undef, undef, undef, undef, undef, undef, undef, undef, undef, undef, undef, undef, undef, undef, undef, undef, undef] (by kernel_rfl) ?_
      refine wpL.done ?_
      refine then_n ?_
      refine ⟨_, (j + 1), rfl, rfl, ⟨?_, ?_, ?_, ?_⟩, ?_⟩
      · (try dsimp only)
        all_goals (omega)
      · (try dsimp only)
        all_goals (exact o5)
      · (try dsimp only)
        all_goals (exact pcopy_length la lb _)
      · (try dsimp only)
        all_goals (rw [← pcopy_step (by omega)]; exact a11)
      · (try dsimp only)
        all_goals (omega)
    · skip
      refine wpIn_exit ?_
      refine then_x (then_x (inb_e ?_))
      refine then_n ?_
      refine wpIn_seq ?_
      refine wpIn_seq ?_
      refine plain ?_
      refine wpL.is (v := (eN 0)) rfl (d_assign (v := (eN 0)) rfl) ?_
      refine wpL.flat [u1, u2, undef, undef, (Value.slice none 0 0), (sli b 0 (max la.length lb.length) (max la.length lb.length)), (eN j), (eN 0), u1, (eN la.length), u2, (eN lb.length), (eN (max la.length lb.length)), (sli b 0 (max la.length lb.length) (max la.length lb.length)), (eN j), u1, (eN la.length), (Value.bool (decide (j < la.length))), (z 18), (z 19), (z 20), (z 21), (z 22), (z 23), (z 24), (z 25), (z 26), undef, undef, undef, undef, undef, undef, undef, undef, undef, undef, undef, undef, undef, undef, undef, undef, undef, undef, undef, undef] (by kernel_rfl) ?_
      refine wpL.done ?_
      refine then_n ?_
      refine wpIn_block ?_
      refine loop2 (fun (i : (Nat)) => fun (z : Nat → Value) => ([u1, u2, undef, undef, (Value.slice none 0 0), (sli b 0 (max la.length lb.length) (max la.length lb.length)), (eN j), (eN i), u1, (eN la.length), u2, (eN lb.length), (eN (max la.length lb.length)), (sli b 0 (max la.length lb.length) (max la.length lb.length)), (eN j), u1, (eN la.length), (Value.bool (decide (j < la.length))), (z 18), (z 19), (z 20), (z 21), (z 22), (z 23), (z 24), (z 25), (z 26), (z 27), (z 28), (z 29), (z 30), (z 31), (z 32), (z 33), (z 34), (z 35), (z 36), (z 37), (z 38), (z 39), (z 40), (z 41), (z 42), (z 43), (z 44), undef, undef] : List Value)) (fun (i : (Nat)) => fun (w_ : World) => (i ≤ lb.length) ∧ Only (Or1 b No) w6 w_ ∧ (padd la lb i).length = max la.length lb.length ∧ Arr 5 b ((padd la lb i).map eB) w_) (fun (i : (Nat)) => lb.length - i) 0 rfl ?_ ?_
      · refine ⟨?_, ?_, ?_, ?_⟩
        · (try dsimp only)
          all_goals (exact Nat.zero_le _)
        · (try dsimp only)
          all_goals (exact Only.refl _ _)
        · (try dsimp only)
          all_goals (exact padd_length la lb 0)
        · (try dsimp only)
          all_goals (rw [← pcopy_done, show la.length = j by omega]; exact a3)
      · rintro i z w14 ⟨hi, o13, l_b, a3⟩
        (try dsimp only)
        replace h1 := h1.step o13 (or1_mono no_any)
        replace h2 := h2.step o13 (or1_mono no_any)
        replace oW := oW.tail o13 (tl_new g_oW_b tl_no)
        replace o5 := o5.tail o13 (tl_in in1 tl_no)
        refine wpIn_seq ?_
        refine wpIn_seq ?_
        refine plain ?_
        refine wpL.is (v := (eN i)) rfl (d_move (v := (eN i)) rfl) ?_
        refine wpL.is (v := u2) rfl (d_move (v := u2) rfl) ?_
        refine wpL.is (v := (eN lb.length)) rfl (d_lenS rfl Try.underlying23 rfl h2) ?_
        refine wpL.flat [u1, u2, undef, undef, (Value.slice none 0 0), (sli b 0 (max la.length lb.length) (max la.length lb.length)), (eN j), (eN i), u1, (eN la.length), u2, (eN lb.length), (eN (max la.length lb.length)), (sli b 0 (max la.length lb.length) (max la.length lb.length)), (eN j), u1, (eN la.length), (Value.bool (decide (j < la.length))), (z 18), (z 19), (z 20), (z 21), (z 22), (z 23), (z 24), (z 25), (z 26), (eN i), u2, (eN lb.length), (z 30), (z 31), (z 32), (z 33), (z 34), (z 35), (z 36), (z 37), (z 38), (z 39), (z 40), (z 41), (z 42), (z 43), (z 44), undef, undef] (by kernel_rfl) ?_
        refine wpL.is (v := (Value.bool (decide (i < lb.length)))) rfl (n_lss (a := i) (b := lb.length) rfl rfl rfl) ?_
        refine wpL.flat [u1, u2, undef, undef, (Value.slice none 0 0), (sli b 0 (max la.length lb.length) (max la.length lb.length)), (eN j), (eN i), u1, (eN la.length), u2, (eN lb.length), (eN (max la.length lb.length)), (sli b 0 (max la.length lb.length) (max la.length lb.length)), (eN j), u1, (eN la.length), (Value.bool (decide (j < la.length))), (z 18), (z 19), (z 20), (z 21), (z 22), (z 23), (z 24), (z 25), (z 26), (eN i), u2, (eN lb.length), (Value.bool (decide (i < lb.length))), (z 31), (z 32), (z 33), (z 34), (z 35), (z 36), (z 37), (z 38), (z 39), (z 40), (z 41), (z 42), (z 43), (z 44), undef, undef] (by kernel_rfl) ?_
        refine wpL.done ?_
        refine then_n ?_
        refine cond_if rfl (fun c15 => ?_) (fun c15 => ?_)
        · skip
          refine wpIn_skip ?_
          refine then_n ?_
          refine wpIn_seq ?_
          refine wpIn_block ?_
          refine drawn' (O := (Or1 b No)) (n := 13) [0, 0, 0, 0, 12, 28, 0, 0, 192, 448, 1020, 2047, 4095] [(0, 33), (1, 34), (2, 35), (3, 36), (4, 37), (5, 38), (6, 39), (7, 40), (8, 41), (9, 42), (10, 43), (11, 44)] [0, 1, 2, 3, 4, 5, 6, 7, 8, 9, 10, 11] [12] (fun i_ => ([RF.is (Or1 b No) (sli b 0 (max la.length lb.length) (max la.length lb.length)), RF.is (Or1 b No) (eN i), RF.is (Or1 b No) (sli b 0 (max la.length lb.length) (max la.length lb.length)), RF.is (Or1 b No) (eN i), RF.is (Or1 b No) (ptr b i), RF.is (Or1 b No) (eB ((padd la lb i).getD i 0)), RF.is (Or1 b No) u2, RF.is (Or1 b No) (eN i), RF.ps (Or1 b No) (Or1 b No) (At kB (lb.getD i 0)) (or1_mono no_any), RF.is (Or1 b No) (eB (lb.getD i 0)), RF.is (Or1 b No) (eB (((padd la lb i).getD i 0) ^^^ (lb.getD i 0))), RF.is (Or1 b No) (ptr b i), RF.any (Or1 b No)] : List (RF (Or1 b No))).getD i_ (RF.any (Or1 b No))) (fun k_ w_ => match k_ with | 0 => Arr 5 b ((padd la lb i).map eB) w_ | _ => Arr 5 b (((padd la lb i).set i (((padd la lb i).getD i 0) ^^^ (lb.getD i 0))).map eB) w_) (fun v16 => [u1, u2, undef, undef, (Value.slice none 0 0), (sli b 0 (max la.length lb.length) (max la.length lb.length)), (eN j), (eN i), u1, (eN la.length), u2, (eN lb.length), (eN (max la.length lb.length)), (sli b 0 (max la.length lb.length) (max la.length lb.length)), (eN j), u1, (eN la.length), (Value.bool (decide (j < la.length))), (z 18), (z 19), (z 20), (z 21), (z 22), (z 23), (z 24), (z 25), (z 26), (eN i), u2, (eN lb.length), (Value.bool (decide (i < lb.length))), (z 31), (z 32), (v16 0), (v16 1), (v16 2), (v16 3), (v16 4), (v16 5), (v16 6), (v16 7), (v16 8), (v16 9), (v16 10), (v16 11), undef, undef]) s_mx (by kernel_rfl) rfl (by decide) (by rfl) (fun v_ => by kernel_rfl) (fun k_ => match k_ with | 0 => fun w_ w2_ h ho => by have r_a3 := h; exact r_a3.step0 ho | (_ + 1) => fun w_ w2_ h ho => by have r_a3 := h; exact r_a3.step0 ho) a3 ?_ ?_ ?_
          · skip
            refine ls_cons ?_ ?_
            · intro v16 lo hi w_ k_ hO hd _ _ hk_ _ hR hold
              obtain rfl : k_ = 0 := Nat.le_zero.1 (hk_ 0 (by decide) (by kernel_rfl))
              have r_a3 := hR
              clear hd hold
              refine ⟨_, rfl, gd rfl ?_⟩
              exact Does.is (d_move (v := (sli b 0 (max la.length lb.length) (max la.length lb.length))) rfl)
            refine ls_cons ?_ ?_
            · intro v16 lo hi w_ k_ hO hd _ _ hk_ _ hR hold
              obtain rfl : k_ = 0 := Nat.le_zero.1 (hk_ 0 (by decide) (by kernel_rfl))
              have r_a3 := hR
              clear hd hold
              refine ⟨_, rfl, gd rfl ?_⟩
              exact Does.is (d_move (v := (eN i)) rfl)
            refine ls_cons ?_ ?_
            · intro v16 lo hi w_ k_ hO hd _ _ hk_ _ hR hold
              obtain rfl : k_ = 0 := Nat.le_zero.1 (hk_ 0 (by decide) (by kernel_rfl))
              have r_a3 := hR
              clear hd hold
              refine ⟨_, rfl, gd rfl ?_⟩
              exact Does.is (d_move (v := (sli b 0 (max la.length lb.length) (max la.length lb.length))) rfl)
            refine ls_cons ?_ ?_
            · intro v16 lo hi w_ k_ hO hd _ _ hk_ _ hR hold
              obtain rfl : k_ = 0 := Nat.le_zero.1 (hk_ 0 (by decide) (by kernel_rfl))
              have r_a3 := hR
              clear hd hold
              refine ⟨_, rfl, gd rfl ?_⟩
              exact Does.is (d_move (v := (eN i)) rfl)
            refine ls_cons ?_ ?_
            · intro v16 lo hi w_ k_ hO hd _ _ hk_ _ hR hold
              obtain rfl : k_ = 0 := Nat.le_zero.1 (hk_ 0 (by decide) (by kernel_rfl))
              have r_a3 := hR
              have e2 : v16 2 = (sli b 0 (max la.length lb.length) (max la.length lb.length)) := hd 2 (by kernel_rfl)
              have e3 : v16 3 = (eN i) := hd 3 (by kernel_rfl)
              clear hd hold
              refine ⟨_, rfl, gd rfl ?_⟩
              exact Does.is (d_index1 (n := (max la.length lb.length)) (i := i) Try.underlying23 s_ti5 e2 (show _ = Value.int _ ((i : Nat) : Int) from e3) (by omega))
            refine ls_cons ?_ ?_
            · intro v16 lo hi w_ k_ hO hd _ _ hk_ _ hR hold
              obtain rfl : k_ = 0 := Nat.le_zero.1 (hk_ 0 (by decide) (by kernel_rfl))
              have r_a3 := hR
              have e4 : v16 4 = (ptr b i) := hd 4 (by kernel_rfl)
              clear hd hold
              refine ⟨_, rfl, gd rfl ?_⟩
              exact Does.is (d_load ⟨_, Try.underlying5, rfl⟩ e4 r_a3 (m_at (d := 0) (by rw [l_b]; omega)))
            refine ls_cons ?_ ?_
            · intro v16 lo hi w_ k_ hO hd _ _ hk_ _ hR hold
              obtain rfl : k_ = 0 := Nat.le_zero.1 (hk_ 0 (by decide) (by kernel_rfl))
              have r_a3 := hR
              clear hd hold
              refine ⟨_, rfl, gd rfl ?_⟩
              exact Does.is (d_move (v := u2) rfl)
            refine ls_cons ?_ ?_
            · intro v16 lo hi w_ k_ hO hd _ _ hk_ _ hR hold
              obtain rfl : k_ = 0 := Nat.le_zero.1 (hk_ 0 (by decide) (by kernel_rfl))
              have r_a3 := hR
              clear hd hold
              refine ⟨_, rfl, gd rfl ?_⟩
              exact Does.is (d_move (v := (eN i)) rfl)
            refine ls_cons ?_ ?_
            · intro v16 lo hi w_ k_ hO hd _ _ hk_ _ hR hold
              obtain rfl : k_ = 0 := Nat.le_zero.1 (hk_ 0 (by decide) (by kernel_rfl))
              have r_a3 := hR
              have e6 : v16 6 = u2 := hd 6 (by kernel_rfl)
              have e7 : v16 7 = (eN i) := hd 7 (by kernel_rfl)
              clear hd hold
              refine ⟨_, rfl, gd rfl ?_⟩
              refine Does.mono (d_indexS (q := kB) (xs := lb) (v := (lb.getD i 0)) Try.underlying23 s_ti5 e6 (h2.step hO (or1_mono no_any)) (show _ = Value.int _ ((i : Nat) : Int) from e7) (by omega) (g_at (by first | omega | (simp; done) | (simp; omega)))) (fun u w' h => ⟨h.2 ▸ h.1, h.2 ▸ Only.refl _ _⟩)
            refine ls_cons ?_ ?_
            · intro v16 lo hi w_ k_ hO hd _ _ hk_ _ hR hold
              obtain rfl : k_ = 0 := Nat.le_zero.1 (hk_ 0 (by decide) (by kernel_rfl))
              have r_a3 := hR
              have d8 : Ps (Or1 b No) (At kB (lb.getD i 0) (v16 8)) w_ := hd 8 (by kernel_rfl)
              clear hd hold
              refine ⟨_, rfl, gd rfl ?_⟩
              exact Does.is (d_loadAt (enc := eB) (v := (lb.getD i 0)) ⟨_, Try.underlying5, rfl⟩ rfl d8)
            refine ls_cons ?_ ?_
            · intro v16 lo hi w_ k_ hO hd _ _ hk_ _ hR hold
              obtain rfl : k_ = 0 := Nat.le_zero.1 (hk_ 0 (by decide) (by kernel_rfl))
              have r_a3 := hR
              have e5 : v16 5 = (eB ((padd la lb i).getD i 0)) := hd 5 (by kernel_rfl)
              have e9 : v16 9 = (eB (lb.getD i 0)) := hd 9 (by kernel_rfl)
              clear hd hold
              refine ⟨_, rfl, gd rfl ?_⟩
              exact Does.is (b_xor (c := ((padd la lb i).getD i 0)) (e := (lb.getD i 0)) e5 e9)
            refine ls_cons ?_ ?_
            · intro v16 lo hi w_ k_ hO hd _ _ hk_ _ hR hold
              obtain rfl : k_ = 0 := Nat.le_zero.1 (hk_ 0 (by decide) (by kernel_rfl))
              have r_a3 := hR
              have e0 : v16 0 = (sli b 0 (max la.length lb.length) (max la.length lb.length)) := hd 0 (by kernel_rfl)
              have e1 : v16 1 = (eN i) := hd 1 (by kernel_rfl)
              clear hd hold
              refine ⟨_, rfl, gd rfl ?_⟩
              exact Does.is (d_index1 (n := (max la.length lb.length)) (i := i) Try.underlying23 s_ti5 e0 (show _ = Value.int _ ((i : Nat) : Int) from e1) (by omega))
            exact ls_nil
          · skip
            refine ms_one ?_
            · intro v16 lo hi w_ hO hd _ hR hold
              have r_a3 := hR
              have e10 : v16 10 = (eB (((padd la lb i).getD i 0) ^^^ (lb.getD i 0))) := hd 10 (by kernel_rfl)
              have e11 : v16 11 = (ptr b i) := hd 11 (by kernel_rfl)
              clear hd hold
              refine ⟨_, rfl, gd rfl ?_⟩
              refine Does.mono (d_store (b := b) (i := i) (v := (eB (((padd la lb i).getD i 0) ^^^ (lb.getD i 0)))) s_ti5 e11 e10 rfl r_a3 (by rw [List.length_map, l_b]; omega) (m_put (padd la lb i) i (((padd la lb i).getD i 0) ^^^ (lb.getD i 0)) eB)) (fun u w' h => ⟨trivial, h.1, h.2.mono (fun k _ e => by have : k = b := e; rw [this]; exact in1)⟩)
          intro v16 lo_ hi_ w17 o18 hd iv_ hR
          have e0 : v16 0 = (sli b 0 (max la.length lb.length) (max la.length lb.length)) := hd 0 (by decide)
          have e1 : v16 1 = (eN i) := hd 1 (by decide)
          have e2 : v16 2 = (sli b 0 (max la.length lb.length) (max la.length lb.length)) := hd 2 (by decide)
          have e3 : v16 3 = (eN i) := hd 3 (by decide)
          have e4 : v16 4 = (ptr b i) := hd 4 (by decide)
          have e5 : v16 5 = (eB ((padd la lb i).getD i 0)) := hd 5 (by decide)
          have e6 : v16 6 = u2 := hd 6 (by decide)
          have e7 : v16 7 = (eN i) := hd 7 (by decide)
          have e9 : v16 9 = (eB (lb.getD i 0)) := hd 9 (by decide)
          have e10 : v16 10 = (eB (((padd la lb i).getD i 0) ^^^ (lb.getD i 0))) := hd 10 (by decide)
          have e11 : v16 11 = (ptr b i) := hd 11 (by decide)
          have f_v16_8 : Ps (Or1 b No) (At kB (lb.getD i 0) (v16 8)) w17 := hd 8 (by decide)
          clear hd iv_ lo_ hi_
          refine fr_eq (l' := [u1, u2, undef, undef, (Value.slice none 0 0), (sli b 0 (max la.length lb.length) (max la.length lb.length)), (eN j), (eN i), u1, (eN la.length), u2, (eN lb.length), (eN (max la.length lb.length)), (sli b 0 (max la.length lb.length) (max la.length lb.length)), (eN j), u1, (eN la.length), (Value.bool (decide (j < la.length))), (z 18), (z 19), (z 20), (z 21), (z 22), (z 23), (z 24), (z 25), (z 26), (eN i), u2, (eN lb.length), (Value.bool (decide (i < lb.length))), (z 31), (z 32), (sli b 0 (max la.length lb.length) (max la.length lb.length)), (eN i), (sli b 0 (max la.length lb.length) (max la.length lb.length)), (eN i), (ptr b i), (eB ((padd la lb i).getD i 0)), u2, (eN i), (v16 8), (eB (lb.getD i 0)), (eB (((padd la lb i).getD i 0) ^^^ (lb.getD i 0))), (ptr b i), undef, undef]) (by rw [e0, e1, e2, e3, e4, e5, e6, e7, e9, e10, e11]) ?_
          clear e0 e1 e2 e3 e4 e5 e6 e7 e9 e10 e11
          replace h1 := h1.step o18 (or1_mono no_any)
          replace h2 := h2.step o18 (or1_mono no_any)
          replace a3 : Arr 5 b (((padd la lb i).set i (((padd la lb i).getD i 0) ^^^ (lb.getD i 0))).map eB) w17 := hR
          clear hR
          replace l_b : ((padd la lb i).set i (((padd la lb i).getD i 0) ^^^ (lb.getD i 0))).length = max la.length lb.length := (List.length_set ..).trans l_b
          replace oW := oW.tail o18 (tl_new g_oW_b tl_no)
          replace o5 := o5.tail o18 (tl_in in1 tl_no)
          replace o13 := o13.tail o18 (tl_in in1 tl_no)
          refine inb_n (then_n ?_)
          refine plain ?_
          refine wpL.is (v := (eN i)) rfl (d_move (v := (eN i)) rfl) ?_
          refine wpL.is (v := (eN (i + 1))) rfl (n_add (a := i) (b := 1) rfl rfl (by omega)) ?_
          refine wpL.is (v := (eN (i + 1))) rfl (d_assign (v := (eN (i + 1))) rfl) ?_
          refine wpL.flat [u1, u2, undef, undef, (Value.slice none 0 0), (sli b 0 (max la.length lb.length) (max la.length lb.length)), (eN j), (eN (i + 1)), u1, (eN la.length), u2, (eN lb.length), (eN (max la.length lb.length)), (sli b 0 (max la.length lb.length) (max la.length lb.length)), (eN j), u1, (eN la.length), (Value.bool (decide (j < la.length))), (z 18), (z 19), (z 20), (z 21), (z 22), (z 23), (z 24), (z 25), (z 26), (eN i), u2, (eN lb.length), (Value.bool (decide (i < lb.length))), (eN i), (eN (i + 1)), (sli b 0 (max la.length lb.length) (max la.length lb.length)), (eN i), (sli b 0 (max la.length lb.length) (max la.length lb.length)), (eN i), (ptr b i), (eB ((padd la lb i).getD i 0)), u2, (eN i), (v16 8), (eB (lb.getD i 0)), (eB (((padd la lb i).getD i 0) ^^^ (lb.getD i 0))), (ptr b i), undef, undef] (by kernel_rfl) ?_
          refine wpL.done ?_
          refine then_n ?_
          refine ⟨_, (i + 1), rfl, rfl, ⟨?_, ?_, ?_, ?_⟩, ?_⟩
          · (try dsimp only)
            all_goals (omega)
          · (try dsimp only)
            all_goals (exact o13)
          · (try dsimp only)
            all_goals (exact padd_length la lb _)
          · (try dsimp only)
            all_goals (rw [← padd_step (by omega)]; exact a3)
          · (try dsimp only)
            all_goals (omega)
        · skip
          refine wpIn_exit ?_
          refine then_x (then_x (inb_e ?_))
          refine then_n ?_
          refine wpIn_seq ?_
          refine plain ?_
          refine wpL.is (v := (sli b 0 (max la.length lb.length) (max la.length lb.length))) rfl (d_move (v := (sli b 0 (max la.length lb.length) (max la.length lb.length))) rfl) ?_
          refine wpL.op rfl (d_call (xl := [.tmp 45]) (al := [(sli b 0 (max la.length lb.length) (max la.length lb.length))]) Try.func25 (by kernel_rfl) rfl rfl rfl (ref3Trim_ok (padd la lb i) (sli b 0 (max la.length lb.length) (max la.length lb.length)) _ (Ps.no (arr_seq a3 l_b (Nat.le_refl _))) (by have := padd_length la lb i; first | omega | (simp; done) | (simp; omega)))) ?_
          rintro u21 w19 f22
          obtain ⟨bo23, f22, g24, o20⟩ := f22
          have nq_r_b := nq_new g24 a3.lt
          have q_oW_r := qnew g24 oW.size
          have q_o5_r := qnew g24 o5.size
          have q_o13_r := qnew g24 o13.size
          replace h1 := h1.newq o20 g24
          replace h2 := h2.newq o20 g24
          replace a3 := a3.step0 o20
          replace oW := oW.tail0 o20
          replace o5 := o5.tail0 o20
          replace o13 := o13.tail0 o20
          refine wpL.is (v := u21) rfl (d_assign (v := u21) rfl) ?_
          refine wpL.flat [u1, u2, undef, undef, u21, (sli b 0 (max la.length lb.length) (max la.length lb.length)), (eN j), (eN i), u1, (eN la.length), u2, (eN lb.length), (eN (max la.length lb.length)), (sli b 0 (max la.length lb.length) (max la.length lb.length)), (eN j), u1, (eN la.length), (Value.bool (decide (j < la.length))), (z 18), (z 19), (z 20), (z 21), (z 22), (z 23), (z 24), (z 25), (z 26), (eN i), u2, (eN lb.length), (Value.bool (decide (i < lb.length))), (z 31), (z 32), (z 33), (z 34), (z 35), (z 36), (z 37), (z 38), (z 39), (z 40), (z 41), (z 42), (z 43), (z 44), (sli b 0 (max la.length lb.length) (max la.length lb.length)), u21] (by kernel_rfl) ?_
          refine wpL.done ?_
          refine then_n ?_
          refine wpIn_ret ?_
          refine leave0 (v := u21) (res1 Try.results23 rfl) ?_
          exact ROw.mk_ f22 (by rw [show i = lb.length by omega]; exact padd_done la lb) q_oW_r oW

set_option maxRecDepth 20000 in
set_option maxHeartbeats 1000000 in
theorem div_ok (la lb : List UInt8) (u1 u2 : Value) (W : World) (h1 : Ps No (Seq kB la u1) W) (h2 : Ps No (Seq kB lb u2) W) (g1 : la.length ≤ 1048576) (g2 : lb.length ≤ 1048576) :
    CW Try.prog 21 #[u1, u2] W (Rt (RDiv (quoP la lb) (remP la lb) (isP lb) W)) := by
  have oW : Only No W W := Only.refl _ _
  refine enter (al := [u1, u2]) (k := 74) (l := [u1, u2, undef, undef, undef, undef, undef, undef, undef, undef, undef, undef, undef, undef, undef, undef, undef, undef, undef, undef, undef, undef, undef, undef, undef, undef, undef, undef, undef, undef, undef, undef, undef, undef, undef, undef, undef, undef, undef, undef, undef, undef, undef, undef, undef, undef, undef, undef, undef, undef, undef, undef, undef, undef, undef, undef, undef, undef, undef, undef, undef, undef, undef, undef, undef, undef, undef, undef, undef, undef, undef, undef, undef, undef, undef, undef]) Try.func21 rfl Try.ntmps21 rfl rfl ?_
  have t1 := trimL_len la
  have t2 := trimL_len lb
  refine wpIn_seq ?_
  refine plain ?_
  refine wpL.is (v := (Value.slice none 0 0)) rfl (d_assign (v := (Value.slice none 0 0)) rfl) ?_
  refine wpL.is (v := (Value.slice none 0 0)) rfl (d_assign (v := (Value.slice none 0 0)) rfl) ?_
  refine wpL.is (v := (Value.bool false)) rfl (d_assign (v := (Value.bool false)) rfl) ?_
  refine wpL.flat [u1, u2, undef, undef, (Value.slice none 0 0), (Value.slice none 0 0), (Value.bool false), undef, undef, undef, undef, undef, undef, undef, undef, undef, undef, undef, undef, undef, undef, undef, undef, undef, undef, undef, undef, undef, undef, undef, undef, undef, undef, undef, undef, undef, undef, undef, undef, undef, undef, undef, undef, undef, undef, undef, undef, undef, undef, undef, undef, undef, undef, undef, undef, undef, undef, undef, undef, undef, undef, undef, undef, undef, undef, undef, undef, undef, undef, undef, undef, undef, undef, undef, undef, undef] (by kernel_rfl) ?_
  refine wpL.done ?_
  refine then_n ?_
  refine wpIn_seq ?_
  refine plain ?_
  refine wpL.is (v := u1) rfl (d_move (v := u1) rfl) ?_
  refine wpL.op rfl (d_call (xl := [.tmp 11]) (al := [u1]) Try.func18 (by kernel_rfl) rfl rfl rfl (trim_ok la u1 _ (Ps.no h1) (by first | omega | (simp; done) | (simp; omega)))) ?_
  rintro u3 w1 f4
  obtain ⟨bo5, f4, g6, o2⟩ := f4
  have q_oW_r := qnew g6 oW.size
  replace h1 := h1.newq o2 g6
  replace h2 := h2.newq o2 g6
  replace oW := oW.tail0 o2
  refine wpL.is (v := u2) rfl (d_move (v := u2) rfl) ?_
  refine wpL.flat [u1, u2, undef, undef, (Value.slice none 0 0), (Value.slice none 0 0), (Value.bool false), undef, undef, undef, undef, u1, u3, u2, undef, undef, undef, undef, undef, undef, undef, undef, undef, undef, undef, undef, undef, undef, undef, undef, undef, undef, undef, undef, undef, undef, undef, undef, undef, undef, undef, undef, undef, undef, undef, undef, undef, undef, undef, undef, undef, undef, undef, undef, undef, undef, undef, undef, undef, undef, undef, undef, undef, undef, undef, undef, undef, undef, undef, undef, undef, undef, undef, undef, undef, undef] (by kernel_rfl) ?_
  refine wpL.op rfl (d_call (xl := [.tmp 13]) (al := [u2]) Try.func18 (by kernel_rfl) rfl rfl rfl (trim_ok lb u2 _ (Ps.no h2) (by first | omega | (simp; done) | (simp; omega)))) ?_
  rintro u9 w7 f10
  replace f10 := f10.ps
  obtain ⟨f10, o8⟩ := f10
  replace f10 := f10.less (Y := (Orq bo5 (Old W.heap.size))) (orq_old (fun x hx => by subst hx; exact f4.lt) (old_old oW.size))
  replace h1 := h1.step0 o8
  replace h2 := h2.step0 o8
  replace f4 := f4.step0 o8
  replace oW := oW.tail0 o8
  refine wpL.is (v := u3) rfl (d_assign (v := u3) rfl) ?_
  refine wpL.is (v := u9) rfl (d_assign (v := u9) rfl) ?_
  refine wpL.flat [u1, u9, undef, undef, (Value.slice none 0 0), u3, (Value.bool false), undef, undef, undef, undef, u1, u3, u2, u9, undef, undef, undef, undef, undef, undef, undef, undef, undef, undef, undef, undef, undef, undef, undef, undef, undef, undef, undef, undef, undef, undef, undef, undef, undef, undef, undef, undef, undef, undef, undef, undef, undef, undef, undef, undef, undef, undef, undef, undef, undef, undef, undef, undef, undef, undef, undef, undef, undef, undef, undef, undef, undef, undef, undef, undef, undef, undef, undef, undef, undef] (by kernel_rfl) ?_
  refine wpL.done ?_
  refine then_n ?_
  refine wpIn_seq ?_
  refine wpIn_seq ?_
  refine plain ?_
  refine wpL.is (v := u9) rfl (d_move (v := u9) rfl) ?_
  refine wpL.is (v := (eN ((trimL lb).length))) rfl (d_lenS rfl Try.underlying23 rfl f10) ?_
  refine wpL.is (v := (Value.bool (decide (((trimL lb).length) = 0)))) rfl (n_eql (a := ((trimL lb).length)) (b := 0) rfl rfl rfl) ?_
  refine wpL.flat [u1, u9, undef, undef, (Value.slice none 0 0), u3, (Value.bool false), undef, undef, undef, undef, u1, u3, u2, u9, u9, (eN ((trimL lb).length)), (Value.bool (decide (((trimL lb).length) = 0))), undef, undef, undef, undef, undef, undef, undef, undef, undef, undef, undef, undef, undef, undef, undef, undef, undef, undef, undef, undef, undef, undef, undef, undef, undef, undef, undef, undef, undef, undef, undef, undef, undef, undef, undef, undef, undef, undef, undef, undef, undef, undef, undef, undef, undef, undef, undef, undef, undef, undef, undef, undef, undef, undef, undef, undef, undef, undef] (by kernel_rfl) ?_
  refine wpL.done ?_
  refine then_n ?_
  refine cond_if rfl (fun c0 => ?_) (fun c0 => ?_)
  · skip
    refine wpIn_seq ?_
    refine plain ?_
    refine wpL.is (v := (Value.slice none 0 0)) rfl (d_assign (v := (Value.slice none 0 0)) rfl) ?_
    refine wpL.is (v := (Value.slice none 0 0)) rfl (d_assign (v := (Value.slice none 0 0)) rfl) ?_
    refine wpL.is (v := (Value.bool false)) rfl (d_assign (v := (Value.bool false)) rfl) ?_
    refine wpL.flat [u1, u9, undef, undef, (Value.slice none 0 0), (Value.slice none 0 0), (Value.bool false), undef, undef, undef, undef, u1, u3, u2, u9, u9, (eN ((trimL lb).length)), (Value.bool (decide (((trimL lb).length) = 0))), undef, undef, undef, undef, undef, undef, undef, undef, undef, undef, undef, undef, undef, undef, undef, undef, undef, undef, undef, undef, undef, undef, undef, undef, undef, undef, undef, undef, undef, undef, undef, undef, undef, undef, undef, undef, undef, undef, undef, undef, undef, undef, undef, undef, undef, undef, undef, undef, undef, undef, undef, undef, undef, undef, undef, undef, undef, undef] (by kernel_rfl) ?_
    refine wpL.done ?_
    refine then_n ?_
    refine wpIn_ret ?_
    refine then_r ?_
    refine leave0 (v := (Value.tuple #[(Value.slice none 0 0), (Value.slice none 0 0), (Value.bool false)])) (res3 Try.results21 rfl rfl rfl) ?_
    exact ⟨_, _, by rw [isP_no (List.eq_nil_of_length_eq_zero c0)], by rw [(div_no (List.eq_nil_of_length_eq_zero c0)).1]; exact seq_nil, by rw [(div_no (List.eq_nil_of_length_eq_zero c0)).2]; exact seq_nil, oW⟩
  · skip
    refine wpIn_skip ?_
    refine then_n ?_
    refine wpIn_seq ?_
    refine plain ?_
    refine wpL.is (v := u3) rfl (d_move (v := u3) rfl) ?_
    refine wpL.is (v := (eN ((trimL la).length))) rfl (d_lenS rfl Try.underlying23 rfl (f4.seq (X := No) (fun _ _ h => h))) ?_
    refine wpL.op rfl (d_make1 (n := (trimL la).length) Try.underlying23 s_ti5 rfl rfl (by omega) (by omega) rfl) ?_
    rintro _ w11 ⟨q, rfl, g12, a13, o14⟩
    replace a13 : Arr 5 q ((List.replicate ((trimL la).length) 0).map eB) w11 := by rw [List.map_replicate]; exact a13
    have l_q : (List.replicate ((trimL la).length) 0 : List UInt8).length = (trimL la).length := by simp
    have nq_r_q : ∀ x, bo5 = some x → ¬ x = q := fun x hx e => by have := f4.lts x hx; omega
    have g_oW_q : W.heap.size ≤ q := Nat.le_trans oW.size g12
    replace h1 := h1.new o14 g12
    replace h2 := h2.new o14 g12
    replace f10 := f10.new o14 g12
    replace f4 := f4.step0 o14
    replace oW := oW.tail0 o14
    refine wpL.flat [u1, u9, undef, undef, (Value.slice none 0 0), u3, (Value.bool false), undef, undef, undef, undef, u1, u3, u2, u9, u9, (eN ((trimL lb).length)), (Value.bool (decide (((trimL lb).length) = 0))), u3, (eN ((trimL la).length)), (sli q 0 ((trimL la).length) ((trimL la).length)), undef, undef, undef, undef, undef, undef, undef, undef, undef, undef, undef, undef, undef, undef, undef, undef, undef, undef, undef, undef, undef, undef, undef, undef, undef, undef, undef, undef, undef, undef, undef, undef, undef, undef, undef, undef, undef, undef, undef, undef, undef, undef, undef, undef, undef, undef, undef, undef, undef, undef, undef, undef, undef, undef, undef] (by kernel_rfl) ?_
    refine wpL.is (v := (sli q 0 ((trimL la).length) ((trimL la).length))) rfl (d_assign (v := (sli q 0 ((trimL la).length) ((trimL la).length))) rfl) ?_
    refine wpL.flat [u1, u9, undef, undef, (sli q 0 ((trimL la).length) ((trimL la).length)), u3, (Value.bool false), undef, undef, undef, undef, u1, u3, u2, u9, u9, (eN ((trimL lb).length)), (Value.bool (decide (((trimL lb).length) = 0))), u3, (eN ((trimL la).length)), (sli q 0 ((trimL la).length) ((trimL la).length)), undef, undef, undef, undef, undef, undef, undef, undef, undef, undef, undef, undef, undef, undef, undef, undef, undef, undef, undef, undef, undef, undef, undef, undef, undef, undef, undef, undef, undef, undef, undef, undef, undef, undef, undef, undef, undef, undef, undef, undef, undef, undef, undef, undef, undef, undef, undef, undef, undef, undef, undef, undef, undef, undef, undef] (by kernel_rfl) ?_
    refine wpL.done ?_
    have hb : 0 < (trimL lb).length := by omega
    refine then_n ?_
    refine wpIn_seq ?_
    refine plain ?_
    refine wpL.is (v := u9) rfl (d_move (v := u9) rfl) ?_
    refine wpL.is (v := u9) rfl (d_move (v := u9) rfl) ?_
    refine wpL.is (v := (eN ((trimL lb).length))) rfl (d_lenS rfl Try.underlying23 rfl f10) ?_
    refine wpL.flat [u1, u9, undef, undef, (sli q 0 ((trimL la).length) ((trimL la).length)), u3, (Value.bool false), undef, undef, undef, undef, u1, u3, u2, u9, u9, (eN ((trimL lb).length)), (Value.bool (decide (((trimL lb).length) = 0))), u3, (eN ((trimL la).length)), (sli q 0 ((trimL la).length) ((trimL la).length)), u9, u9, (eN ((trimL lb).length)), undef, undef, undef, undef, undef, undef, undef, undef, undef, undef, undef, undef, undef, undef, undef, undef, undef, undef, undef, undef, undef, undef, undef, undef, undef, undef, undef, undef, undef, undef, undef, undef, undef, undef, undef, undef, undef, undef, undef, undef, undef, undef, undef, undef, undef, undef, undef, undef, undef, undef, undef, undef] (by kernel_rfl) ?_
    refine wpL.is (v := (eN (((trimL lb).length) - 1))) rfl (n_sub (a := ((trimL lb).length)) (b := 1) rfl rfl (by omega) (by omega)) ?_
    refine wpL.op rfl (d_indexS (q := kB) (xs := (trimL lb)) (v := ((trimL lb).getD (((trimL lb).length) - 1) 0)) Try.underlying23 s_ti5 rfl f10 (show _ = Value.int _ ((((trimL lb).length) - 1 : Nat) : Int) from rfl) (by omega) (g_at (by have := trimL_len lb; first | omega | (simp; done) | (simp; omega)))) ?_
    rintro u15 _ ⟨f16, rfl⟩
    refine wpL.is (v := (eB ((trimL lb).getD (((trimL lb).length) - 1) 0))) rfl (d_loadAt (enc := eB) (v := ((trimL lb).getD (((trimL lb).length) - 1) 0)) ⟨_, Try.underlying5, rfl⟩ rfl f16) ?_
    refine wpL.flat [u1, u9, undef, undef, (sli q 0 ((trimL la).length) ((trimL la).length)), u3, (Value.bool false), undef, undef, undef, undef, u1, u3, u2, u9, u9, (eN ((trimL lb).length)), (Value.bool (decide (((trimL lb).length) = 0))), u3, (eN ((trimL la).length)), (sli q 0 ((trimL la).length) ((trimL la).length)), u9, u9, (eN ((trimL lb).length)), (eN (((trimL lb).length) - 1)), u15, (eB ((trimL lb).getD (((trimL lb).length) - 1) 0)), undef, undef, undef, undef, undef, undef, undef, undef, undef, undef, undef, undef, undef, undef, undef, undef, undef, undef, undef, undef, undef, undef, undef, undef, undef, undef, undef, undef, undef, undef, undef, undef, undef, undef, undef, undef, undef, undef, undef, undef, undef, undef, undef, undef, undef, undef, undef, undef, undef] (by kernel_rfl) ?_
    refine wpL.op rfl (d_call (xl := [.tmp 26]) (al := [(eB ((trimL lb).getD (((trimL lb).length) - 1) 0))]) Try.func30 (by kernel_rfl) rfl rfl rfl (gfInv_ok ((trimL lb).getD (((trimL lb).length) - 1) 0) _)) ?_
    rintro _ w17 ⟨rfl, o18⟩
    replace h1 := h1.step0 o18
    replace h2 := h2.step0 o18
    replace f10 := f10.step0 o18
    replace f16 := f16.step0 o18
    replace a13 := a13.step0 o18
    replace f4 := f4.step0 o18
    replace oW := oW.tail0 o18
    refine wpL.is (v := (eB (invB ((trimL lb).getD (((trimL lb).length) - 1) 0)))) rfl (d_assign (v := (eB (invB ((trimL lb).getD (((trimL lb).length) - 1) 0)))) rfl) ?_
    refine wpL.flat [u1, u9, undef, undef, (sli q 0 ((trimL la).length) ((trimL la).length)), u3, (Value.bool false), (eB (invB ((trimL lb).getD (((trimL lb).length) - 1) 0))), undef, undef, undef, u1, u3, u2, u9, u9, (eN ((trimL lb).length)), (Value.bool (decide (((trimL lb).length) = 0))), u3, (eN ((trimL la).length)), (sli q 0 ((trimL la).length) ((trimL la).length)), u9, u9, (eN ((trimL lb).length)), (eN (((trimL lb).length) - 1)), u15, (eB ((trimL lb).getD (((trimL lb).length) - 1) 0)), (eB (invB ((trimL lb).getD (((trimL lb).length) - 1) 0))), undef, undef, undef, undef, undef, undef, undef, undef, undef, undef, undef, undef, undef, undef, undef, undef, undef, undef, undef, undef, undef, undef, undef, undef, undef, undef, undef, undef, undef, undef, undef, undef, undef, undef, undef, undef, undef, undef, undef, undef, undef, undef, undef, undef, undef, undef, undef, undef] (by kernel_rfl) ?_
    refine wpL.done ?_
    have htop : (trimL lb).getD ((trimL lb).length - 1) 0 ≠ 0 := trimL_top hb
    refine then_n ?_
    refine wpIn_seq ?_
    refine wpIn_seq ?_
    refine plain ?_
    refine wpL.is (v := u3) rfl (d_move (v := u3) rfl) ?_
    refine wpL.is (v := (eN ((trimL la).length))) rfl (d_lenS rfl Try.underlying23 rfl (f4.seq (X := No) (fun _ _ h => h))) ?_
    refine wpL.is (v := u9) rfl (d_move (v := u9) rfl) ?_
    refine wpL.flat [u1, u9, undef, undef, (sli q 0 ((trimL la).length) ((trimL la).length)), u3, (Value.bool false), (eB (invB ((trimL lb).getD (((trimL lb).length) - 1) 0))), undef, undef, undef, u1, u3, u2, u9, u9, (eN ((trimL lb).length)), (Value.bool (decide (((trimL lb).length) = 0))), u3, (eN ((trimL la).length)), (sli q 0 ((trimL la).length) ((trimL la).length)), u9, u9, (eN ((trimL lb).length)), (eN (((trimL lb).length) - 1)), u15, (eB ((trimL lb).getD (((trimL lb).length) - 1) 0)), (eB (invB ((trimL lb).getD (((trimL lb).length) - 1) 0))), u3, (eN ((trimL la).length)), u9, undef, undef, undef, undef, undef, undef, undef, undef, undef, undef, undef, undef, undef, undef, undef, undef, undef, undef, undef, undef, undef, undef, undef, undef, undef, undef, undef, undef, undef, undef, undef, undef, undef, undef, undef, undef, undef, undef, undef, undef, undef, undef, undef, undef, undef] (by kernel_rfl) ?_
    refine wpL.is (v := (eN ((trimL lb).length))) rfl (d_lenS rfl Try.underlying23 rfl f10) ?_
    refine wpL.is (v := (eI (((trimL la).length : Int) - ((trimL lb).length : Int)))) rfl (d_sub (k := .i64) (m := (((trimL la).length : Nat) : Int)) (n := (((trimL lb).length : Nat) : Int)) rfl rfl (r := ((trimL la).length : Int) - ((trimL lb).length : Int)) (IntWalk.i64_in _ (by have := trimL_len la; have := trimL_len lb; omega))) ?_
    refine wpL.is (v := (eI (((trimL la).length : Int) - ((trimL lb).length : Int)))) rfl (d_assign (v := (eI (((trimL la).length : Int) - ((trimL lb).length : Int)))) rfl) ?_
    refine wpL.flat [u1, u9, undef, undef, (sli q 0 ((trimL la).length) ((trimL la).length)), u3, (Value.bool false), (eB (invB ((trimL lb).getD (((trimL lb).length) - 1) 0))), (eI (((trimL la).length : Int) - ((trimL lb).length : Int))), undef, undef, u1, u3, u2, u9, u9, (eN ((trimL lb).length)), (Value.bool (decide (((trimL lb).length) = 0))), u3, (eN ((trimL la).length)), (sli q 0 ((trimL la).length) ((trimL la).length)), u9, u9, (eN ((trimL lb).length)), (eN (((trimL lb).length) - 1)), u15, (eB ((trimL lb).getD (((trimL lb).length) - 1) 0)), (eB (invB ((trimL lb).getD (((trimL lb).length) - 1) 0))), u3, (eN ((trimL la).length)), u9, (eN ((trimL lb).length)), (eI (((trimL la).length : Int) - ((trimL lb).length : Int))), undef, undef, undef, undef, undef, undef, undef, undef, undef, undef, undef, undef, undef, undef, undef, undef, undef, undef, undef, undef, undef, undef, undef, undef, undef, undef, undef, undef, undef, undef, undef, undef, undef, undef, undef, undef, undef, undef, undef, undef, undef, undef, undef] (by kernel_rfl) ?_
    refine wpL.done ?_
    refine then_n ?_
    refine wpIn_block ?_
    refine loop2 (fun (s_ : (Int) × (List UInt8) × (List UInt8)) => match s_ with | ⟨i, ql, rl⟩ => fun (z : Nat → Value) => ([u1, u9, undef, undef, (sli q 0 ((trimL la).length) ((trimL la).length)), u3, (Value.bool false), (eB (invB ((trimL lb).getD (((trimL lb).length) - 1) 0))), (eI i), (z 9), (z 10), u1, u3, u2, u9, u9, (eN ((trimL lb).length)), (Value.bool (decide (((trimL lb).length) = 0))), u3, (eN ((trimL la).length)), (sli q 0 ((trimL la).length) ((trimL la).length)), u9, u9, (eN ((trimL lb).length)), (eN (((trimL lb).length) - 1)), u15, (eB ((trimL lb).getD (((trimL lb).length) - 1) 0)), (eB (invB ((trimL lb).getD (((trimL lb).length) - 1) 0))), u3, (eN ((trimL la).length)), u9, (eN ((trimL lb).length)), (eI (((trimL la).length : Int) - ((trimL lb).length : Int))), (z 33), (z 34), (z 35), (z 36), (z 37), (z 38), (z 39), (z 40), (z 41), (z 42), (z 43), (z 44), (z 45), (z 46), (z 47), (z 48), (z 49), (z 50), (z 51), (z 52), (z 53), (z 54), (z 55), (z 56), (z 57), (z 58), (z 59), (z 60), (z 61), (z 62), (z 63), (z 64), (z 65), (z 66), (z 67), (z 68), (z 69), (z 70), (z 71), undef, undef, undef, undef] : List Value)) (fun (s_ : (Int) × (List UInt8) × (List UInt8)) => match s_ with | ⟨i, ql, rl⟩ => fun (w_ : World) => (i ≤ ((trimL la).length : Int) - ((trimL lb).length : Int)) ∧ (rl.length = (trimL la).length) ∧ (DivInv la (trimL lb) ql rl i) ∧ Only (Or1 q (Orq bo5 No)) w17 w_ ∧ ql.length = (trimL la).length ∧ Arr 5 q (ql.map eB) w_ ∧ Ow 5 1 bo5 u3 (rl).length ((rl).map eB) w_) (fun (s_ : (Int) × (List UInt8) × (List UInt8)) => match s_ with | ⟨i, ql, rl⟩ => (i + 1).toNat) ⟨((trimL la).length : Int) - ((trimL lb).length : Int), List.replicate (trimL la).length 0, trimL la⟩ rfl ?_ ?_
    · refine ⟨?_, ?_, ?_, ?_, ?_, ?_, ?_⟩
      · (try dsimp only)
        all_goals (exact Int.le_refl _)
      · (try dsimp only)
        all_goals (exact rfl)
      · (try dsimp only)
        all_goals (exact DivInv.init)
      · (try dsimp only)
        all_goals (exact Only.refl _ _)
      · (try dsimp only)
        all_goals (exact l_q)
      · (try dsimp only)
        all_goals (exact a13)
      · (try dsimp only)
        all_goals (exact f4)
    · rintro ⟨i, ql, rl⟩ z w20 ⟨hi, hr, hI, o19, l_q, a13, f4⟩
      (try dsimp only)
      replace h1 := h1.step o19 (or1_mono (orq_mono no_any))
      replace h2 := h2.step o19 (or1_mono (orq_mono no_any))
      replace f10 := f10.step o19 (or1_mono (orq_mono no_any))
      replace f16 := f16.step o19 (or1_mono (orq_mono no_any))
      replace oW := oW.tail o19 (tl_new g_oW_q (tl_q q_oW_r (fun _ e => by cases e) tl_no))
      have q_o19_r : Fr bo5 bo5 w17.heap.size := Fr.same
      refine wpIn_seq ?_
      refine wpIn_seq ?_
      refine plain ?_
      refine wpL.is (v := (eI i)) rfl (d_move (v := (eI i)) rfl) ?_
      refine wpL.is (v := (Value.bool (decide (0 ≤ i)))) rfl (d_geq (k := .i64) (m := i) (n := 0) rfl rfl rfl) ?_
      refine wpL.flat [u1, u9, undef, undef, (sli q 0 ((trimL la).length) ((trimL la).length)), u3, (Value.bool false), (eB (invB ((trimL lb).getD (((trimL lb).length) - 1) 0))), (eI i), (z 9), (z 10), u1, u3, u2, u9, u9, (eN ((trimL lb).length)), (Value.bool (decide (((trimL lb).length) = 0))), u3, (eN ((trimL la).length)), (sli q 0 ((trimL la).length) ((trimL la).length)), u9, u9, (eN ((trimL lb).length)), (eN (((trimL lb).length) - 1)), u15, (eB ((trimL lb).getD (((trimL lb).length) - 1) 0)), (eB (invB ((trimL lb).getD (((trimL lb).length) - 1) 0))), u3, (eN ((trimL la).length)), u9, (eN ((trimL lb).length)), (eI (((trimL la).length : Int) - ((trimL lb).length : Int))), (eI i), (Value.bool (decide (0 ≤ i))), (z 35), (z 36), (z 37), (z 38), (z 39), (z 40), (z 41), (z 42), (z 43), (z 44), (z 45), (z 46), (z 47), (z 48), (z 49), (z 50), (z 51), (z 52), (z 53), (z 54), (z 55), (z 56), (z 57), (z 58), (z 59), (z 60), (z 61), (z 62), (z 63), (z 64), (z 65), (z 66), (z 67), (z 68), (z 69), (z 70), (z 71), undef, undef, undef, undef] (by kernel_rfl) ?_
      refine wpL.done ?_
      refine then_n ?_
      refine cond_if rfl (fun c1 => ?_) (fun c1 => ?_)
      · skip
        obtain ⟨n, rfl⟩ := Int.eq_ofNat_of_zero_le c1
        refine wp_eq (l' := [u1, u9, undef, undef, (sli q 0 ((trimL la).length) ((trimL la).length)), u3, (Value.bool false), (eB (invB ((trimL lb).getD (((trimL lb).length) - 1) 0))), (eN n), (z 9), (z 10), u1, u3, u2, u9, u9, (eN ((trimL lb).length)), (Value.bool (decide (((trimL lb).length) = 0))), u3, (eN ((trimL la).length)), (sli q 0 ((trimL la).length) ((trimL la).length)), u9, u9, (eN ((trimL lb).length)), (eN (((trimL lb).length) - 1)), u15, (eB ((trimL lb).getD (((trimL lb).length) - 1) 0)), (eB (invB ((trimL lb).getD (((trimL lb).length) - 1) 0))), u3, (eN ((trimL la).length)), u9, (eN ((trimL lb).length)), (eI (((trimL la).length : Int) - ((trimL lb).length : Int))), (eN n), (Value.bool (decide (0 ≤ (n : Int)))), (z 35), (z 36), (z 37), (z 38), (z 39), (z 40), (z 41), (z 42), (z 43), (z 44), (z 45), (z 46), (z 47), (z 48), (z 49), (z 50), (z 51), (z 52), (z 53), (z 54), (z 55), (z 56), (z 57), (z 58), (z 59), (z 60), (z 61), (z 62), (z 63), (z 64), (z 65), (z 66), (z 67), (z 68), (z 69), (z 70), (z 71), undef, undef, undef, undef]) rfl ?_
        refine wpIn_skip ?_
        refine then_n ?_
        refine wpIn_seq ?_
        refine wpIn_block ?_
        refine wpIn_seq ?_
        refine plain ?_
        refine wpL.is (v := (sli q 0 ((trimL la).length) ((trimL la).length))) rfl (d_move (v := (sli q 0 ((trimL la).length) ((trimL la).length))) rfl) ?_
        refine wpL.is (v := (eN n)) rfl (d_move (v := (eN n)) rfl) ?_
        refine wpL.is (v := u3) rfl (d_move (v := u3) rfl) ?_
        refine wpL.flat [u1, u9, undef, undef, (sli q 0 ((trimL la).length) ((trimL la).length)), u3, (Value.bool false), (eB (invB ((trimL lb).getD (((trimL lb).length) - 1) 0))), (eN n), (z 9), (z 10), u1, u3, u2, u9, u9, (eN ((trimL lb).length)), (Value.bool (decide (((trimL lb).length) = 0))), u3, (eN ((trimL la).length)), (sli q 0 ((trimL la).length) ((trimL la).length)), u9, u9, (eN ((trimL lb).length)), (eN (((trimL lb).length) - 1)), u15, (eB ((trimL lb).getD (((trimL lb).length) - 1) 0)), (eB (invB ((trimL lb).getD (((trimL lb).length) - 1) 0))), u3, (eN ((trimL la).length)), u9, (eN ((trimL lb).length)), (eI (((trimL la).length : Int) - ((trimL lb).length : Int))), (eN n), (Value.bool (decide (0 ≤ (n : Int)))), (z 35), (z 36), (sli q 0 ((trimL la).length) ((trimL la).length)), (eN n), u3, (z 40), (z 41), (z 42), (z 43), (z 44), (z 45), (z 46), (z 47), (z 48), (z 49), (z 50), (z 51), (z 52), (z 53), (z 54), (z 55), (z 56), (z 57), (z 58), (z 59), (z 60), (z 61), (z 62), (z 63), (z 64), (z 65), (z 66), (z 67), (z 68), (z 69), (z 70), (z 71), undef, undef, undef, undef] (by kernel_rfl) ?_
        refine wpL.is (v := (eN n)) rfl (d_move (v := (eN n)) rfl) ?_
        refine wpL.is (v := u9) rfl (d_move (v := u9) rfl) ?_
        refine wpL.is (v := (eN ((trimL lb).length))) rfl (d_lenS rfl Try.underlying23 rfl f10) ?_
        refine wpL.flat [u1, u9, undef, undef, (sli q 0 ((trimL la).length) ((trimL la).length)), u3, (Value.bool false), (eB (invB ((trimL lb).getD (((trimL lb).length) - 1) 0))), (eN n), (z 9), (z 10), u1, u3, u2, u9, u9, (eN ((trimL lb).length)), (Value.bool (decide (((trimL lb).length) = 0))), u3, (eN ((trimL la).length)), (sli q 0 ((trimL la).length) ((trimL la).length)), u9, u9, (eN ((trimL lb).length)), (eN (((trimL lb).length) - 1)), u15, (eB ((trimL lb).getD (((trimL lb).length) - 1) 0)), (eB (invB ((trimL lb).getD (((trimL lb).length) - 1) 0))), u3, (eN ((trimL la).length)), u9, (eN ((trimL lb).length)), (eI (((trimL la).length : Int) - ((trimL lb).length : Int))), (eN n), (Value.bool (decide (0 ≤ (n : Int)))), (z 35), (z 36), (sli q 0 ((trimL la).length) ((trimL la).length)), (eN n), u3, (eN n), u9, (eN ((trimL lb).length)), (z 43), (z 44), (z 45), (z 46), (z 47), (z 48), (z 49), (z 50), (z 51), (z 52), (z 53), (z 54), (z 55), (z 56), (z 57), (z 58), (z 59), (z 60), (z 61), (z 62), (z 63), (z 64), (z 65), (z 66), (z 67), (z 68), (z 69), (z 70), (z 71), undef, undef, undef, undef] (by kernel_rfl) ?_
        refine wpL.is (v := (eN (n + ((trimL lb).length)))) rfl (n_add (a := n) (b := ((trimL lb).length)) rfl rfl (by have := trimL_len la; have := trimL_len lb; omega)) ?_
        refine wpL.is (v := (eN ((n + ((trimL lb).length)) - 1))) rfl (n_sub (a := (n + ((trimL lb).length))) (b := 1) rfl rfl (by omega) (by omega)) ?_
        refine wpL.op rfl (d_indexOw (i := ((n + ((trimL lb).length)) - 1)) (xs := rl) (enc := eB) Try.underlying23 s_ti5 rfl f4 (show _ = Value.int _ (((n + ((trimL lb).length)) - 1 : Nat) : Int) from rfl) (by first | omega | (simp; done) | (simp; omega))) ?_
        rintro u21 _ ⟨p22, rfl⟩
        refine wpL.flat [u1, u9, undef, undef, (sli q 0 ((trimL la).length) ((trimL la).length)), u3, (Value.bool false), (eB (invB ((trimL lb).getD (((trimL lb).length) - 1) 0))), (eN n), (z 9), (z 10), u1, u3, u2, u9, u9, (eN ((trimL lb).length)), (Value.bool (decide (((trimL lb).length) = 0))), u3, (eN ((trimL la).length)), (sli q 0 ((trimL la).length) ((trimL la).length)), u9, u9, (eN ((trimL lb).length)), (eN (((trimL lb).length) - 1)), u15, (eB ((trimL lb).getD (((trimL lb).length) - 1) 0)), (eB (invB ((trimL lb).getD (((trimL lb).length) - 1) 0))), u3, (eN ((trimL la).length)), u9, (eN ((trimL lb).length)), (eI (((trimL la).length : Int) - ((trimL lb).length : Int))), (eN n), (Value.bool (decide (0 ≤ (n : Int)))), (z 35), (z 36), (sli q 0 ((trimL la).length) ((trimL la).length)), (eN n), u3, (eN n), u9, (eN ((trimL lb).length)), (eN (n + ((trimL lb).length))), (eN ((n + ((trimL lb).length)) - 1)), u21, (z 46), (z 47), (z 48), (z 49), (z 50), (z 51), (z 52), (z 53), (z 54), (z 55), (z 56), (z 57), (z 58), (z 59), (z 60), (z 61), (z 62), (z 63), (z 64), (z 65), (z 66), (z 67), (z 68), (z 69), (z 70), (z 71), undef, undef, undef, undef] (by kernel_rfl) ?_
        refine wpL.is (v := (eB (rl.getD ((n + ((trimL lb).length)) - 1) 0))) rfl (d_loadOw (i := ((n + ((trimL lb).length)) - 1)) (xs := rl) (enc := eB) (v := (rl.getD ((n + ((trimL lb).length)) - 1) 0)) ⟨_, Try.underlying5, rfl⟩ rfl p22 f4 (g_at (by first | omega | (simp; done) | (simp; omega)))) ?_
        refine wpL.is (v := (eB (invB ((trimL lb).getD (((trimL lb).length) - 1) 0)))) rfl (d_move (v := (eB (invB ((trimL lb).getD (((trimL lb).length) - 1) 0)))) rfl) ?_
        refine wpL.op rfl (d_call (xl := [.tmp 46, .tmp 47]) (al := [(eB (rl.getD ((n + ((trimL lb).length)) - 1) 0)), (eB (invB ((trimL lb).getD (((trimL lb).length) - 1) 0)))]) Try.func28 (by kernel_rfl) rfl rfl rfl (gfMul_ok (rl.getD ((n + ((trimL lb).length)) - 1) 0) (invB ((trimL lb).getD (((trimL lb).length) - 1) 0)) _)) ?_
        rintro _ w23 ⟨rfl, o24⟩
        replace h1 := h1.step0 o24
        replace h2 := h2.step0 o24
        replace f10 := f10.step0 o24
        replace f16 := f16.step0 o24
        replace a13 := a13.step0 o24
        replace f4 := f4.step0 o24
        replace oW := oW.tail0 o24
        replace o19 := o19.tail0 o24
        refine wpL.flat [u1, u9, undef, undef, (sli q 0 ((trimL la).length) ((trimL la).length)), u3, (Value.bool false), (eB (invB ((trimL lb).getD (((trimL lb).length) - 1) 0))), (eN n), (z 9), (z 10), u1, u3, u2, u9, u9, (eN ((trimL lb).length)), (Value.bool (decide (((trimL lb).length) = 0))), u3, (eN ((trimL la).length)), (sli q 0 ((trimL la).length) ((trimL la).length)), u9, u9, (eN ((trimL lb).length)), (eN (((trimL lb).length) - 1)), u15, (eB ((trimL lb).getD (((trimL lb).length) - 1) 0)), (eB (invB ((trimL lb).getD (((trimL lb).length) - 1) 0))), u3, (eN ((trimL la).length)), u9, (eN ((trimL lb).length)), (eI (((trimL la).length : Int) - ((trimL lb).length : Int))), (eN n), (Value.bool (decide (0 ≤ (n : Int)))), (z 35), (z 36), (sli q 0 ((trimL la).length) ((trimL la).length)), (eN n), u3, (eN n), u9, (eN ((trimL lb).length)), (eN (n + ((trimL lb).length))), (eN ((n + ((trimL lb).length)) - 1)), u21, (eB (rl.getD ((n + ((trimL lb).length)) - 1) 0)), (eB (invB ((trimL lb).getD (((trimL lb).length) - 1) 0))), (eB (gm (rl.getD ((n + ((trimL lb).length)) - 1) 0) (invB ((trimL lb).getD (((trimL lb).length) - 1) 0)))), (z 49), (z 50), (z 51), (z 52), (z 53), (z 54), (z 55), (z 56), (z 57), (z 58), (z 59), (z 60), (z 61), (z 62), (z 63), (z 64), (z 65), (z 66), (z 67), (z 68), (z 69), (z 70), (z 71), undef, undef, undef, undef] (by kernel_rfl) ?_
        refine wpL.is (v := (ptr q n)) rfl (d_index1 (n := ((trimL la).length)) (i := n) Try.underlying23 s_ti5 rfl (show _ = Value.int _ ((n : Nat) : Int) from rfl) (by omega)) ?_
        refine wpL.op rfl (d_store (b := q) (i := n) (v := (eB (gm (rl.getD ((n + ((trimL lb).length)) - 1) 0) (invB ((trimL lb).getD (((trimL lb).length) - 1) 0))))) s_ti5 rfl rfl rfl a13 (by rw [List.length_map, l_q]; omega) (m_put ql n (gm (rl.getD ((n + ((trimL lb).length)) - 1) 0) (invB ((trimL lb).getD (((trimL lb).length) - 1) 0))) eB)) ?_
        rintro _ w25 ⟨a26, o27⟩
        replace h1 := h1.stepb o27 in1
        replace h2 := h2.stepb o27 in1
        replace f10 := f10.stepb o27 in1
        replace f16 := f16.stepb o27 in1
        replace f4 := f4.step o27 (fun x hx e => nq_r_q x hx e)
        replace oW := oW.tailb o27 g_oW_q
        replace o19 := o19.tail o27 (fun k _ e => by have : k = q := e; rw [this]; exact in1)
        replace l_q : (ql.set n (gm (rl.getD ((n + ((trimL lb).length)) - 1) 0) (invB ((trimL lb).getD (((trimL lb).length) - 1) 0)))).length = (trimL la).length := (List.length_set ..).trans l_q
        refine wpL.flat [u1, u9, undef, undef, (sli q 0 ((trimL la).length) ((trimL la).length)), u3, (Value.bool false), (eB (invB ((trimL lb).getD (((trimL lb).length) - 1) 0))), (eN n), (z 9), (z 10), u1, u3, u2, u9, u9, (eN ((trimL lb).length)), (Value.bool (decide (((trimL lb).length) = 0))), u3, (eN ((trimL la).length)), (sli q 0 ((trimL la).length) ((trimL la).length)), u9, u9, (eN ((trimL lb).length)), (eN (((trimL lb).length) - 1)), u15, (eB ((trimL lb).getD (((trimL lb).length) - 1) 0)), (eB (invB ((trimL lb).getD (((trimL lb).length) - 1) 0))), u3, (eN ((trimL la).length)), u9, (eN ((trimL lb).length)), (eI (((trimL la).length : Int) - ((trimL lb).length : Int))), (eN n), (Value.bool (decide (0 ≤ (n : Int)))), (z 35), (z 36), (sli q 0 ((trimL la).length) ((trimL la).length)), (eN n), u3, (eN n), u9, (eN ((trimL lb).length)), (eN (n + ((trimL lb).length))), (eN ((n + ((trimL lb).length)) - 1)), u21, (eB (rl.getD ((n + ((trimL lb).length)) - 1) 0)), (eB (invB ((trimL lb).getD (((trimL lb).length) - 1) 0))), (eB (gm (rl.getD ((n + ((trimL lb).length)) - 1) 0) (invB ((trimL lb).getD (((trimL lb).length) - 1) 0)))), (ptr q n), (z 50), (z 51), (z 52), (z 53), (z 54), (z 55), (z 56), (z 57), (z 58), (z 59), (z 60), (z 61), (z 62), (z 63), (z 64), (z 65), (z 66), (z 67), (z 68), (z 69), (z 70), (z 71), undef, undef, undef, undef] (by kernel_rfl) ?_
        refine wpL.done ?_
        have hn : n < ql.length := by have := l_q; rw [List.length_set] at this; omega
        refine then_n ?_
        refine wpIn_seq ?_
        refine plain ?_
        refine wpL.is (v := u9) rfl (d_move (v := u9) rfl) ?_
        refine wpL.is (v := (eN ((trimL lb).length))) rfl (d_lenS rfl Try.underlying23 rfl f10) ?_
        refine wpL.is (v := (eN 0)) rfl (d_move (v := (eN 0)) rfl) ?_
        refine wpL.flat [u1, u9, undef, undef, (sli q 0 ((trimL la).length) ((trimL la).length)), u3, (Value.bool false), (eB (invB ((trimL lb).getD (((trimL lb).length) - 1) 0))), (eN n), (z 9), (z 10), u1, u3, u2, u9, u9, (eN ((trimL lb).length)), (Value.bool (decide (((trimL lb).length) = 0))), u3, (eN ((trimL la).length)), (sli q 0 ((trimL la).length) ((trimL la).length)), u9, u9, (eN ((trimL lb).length)), (eN (((trimL lb).length) - 1)), u15, (eB ((trimL lb).getD (((trimL lb).length) - 1) 0)), (eB (invB ((trimL lb).getD (((trimL lb).length) - 1) 0))), u3, (eN ((trimL la).length)), u9, (eN ((trimL lb).length)), (eI (((trimL la).length : Int) - ((trimL lb).length : Int))), (eN n), (Value.bool (decide (0 ≤ (n : Int)))), (z 35), (z 36), (sli q 0 ((trimL la).length) ((trimL la).length)), (eN n), u3, (eN n), u9, (eN ((trimL lb).length)), (eN (n + ((trimL lb).length))), (eN ((n + ((trimL lb).length)) - 1)), u21, (eB (rl.getD ((n + ((trimL lb).length)) - 1) 0)), (eB (invB ((trimL lb).getD (((trimL lb).length) - 1) 0))), (eB (gm (rl.getD ((n + ((trimL lb).length)) - 1) 0) (invB ((trimL lb).getD (((trimL lb).length) - 1) 0)))), (ptr q n), u9, (eN ((trimL lb).length)), (eN 0), (z 53), (z 54), (z 55), (z 56), (z 57), (z 58), (z 59), (z 60), (z 61), (z 62), (z 63), (z 64), (z 65), (z 66), (z 67), (z 68), (z 69), (z 70), (z 71), undef, undef, undef, undef] (by kernel_rfl) ?_
        refine wpL.done ?_
        refine then_n ?_
        refine wpIn_block ?_
        refine loop2 (fun (k : (Nat)) => fun (z : Nat → Value) => ([u1, u9, undef, undef, (sli q 0 ((trimL la).length) ((trimL la).length)), u3, (Value.bool false), (eB (invB ((trimL lb).getD (((trimL lb).length) - 1) 0))), (eN n), (z 9), (z 10), u1, u3, u2, u9, u9, (eN ((trimL lb).length)), (Value.bool (decide (((trimL lb).length) = 0))), u3, (eN ((trimL la).length)), (sli q 0 ((trimL la).length) ((trimL la).length)), u9, u9, (eN ((trimL lb).length)), (eN (((trimL lb).length) - 1)), u15, (eB ((trimL lb).getD (((trimL lb).length) - 1) 0)), (eB (invB ((trimL lb).getD (((trimL lb).length) - 1) 0))), u3, (eN ((trimL la).length)), u9, (eN ((trimL lb).length)), (eI (((trimL la).length : Int) - ((trimL lb).length : Int))), (eN n), (Value.bool (decide (0 ≤ (n : Int)))), (z 35), (z 36), (sli q 0 ((trimL la).length) ((trimL la).length)), (eN n), u3, (eN n), u9, (eN ((trimL lb).length)), (eN (n + ((trimL lb).length))), (eN ((n + ((trimL lb).length)) - 1)), u21, (eB (rl.getD ((n + ((trimL lb).length)) - 1) 0)), (eB (invB ((trimL lb).getD (((trimL lb).length) - 1) 0))), (eB (gm (rl.getD ((n + ((trimL lb).length)) - 1) 0) (invB ((trimL lb).getD (((trimL lb).length) - 1) 0)))), (ptr q n), u9, (eN ((trimL lb).length)), (eN k), (z 53), (z 54), (z 55), (z 56), (z 57), (z 58), (z 59), (z 60), (z 61), (z 62), (z 63), (z 64), (z 65), (z 66), (z 67), (z 68), (z 69), (z 70), (z 71), undef, undef, undef, undef] : List Value)) (fun (k : (Nat)) => fun (w_ : World) => (k ≤ (trimL lb).length) ∧ Only (Or1 q (Orq bo5 No)) w25 w_ ∧ Arr 5 q ((ql.set n (gm (rl.getD ((n + ((trimL lb).length)) - 1) 0) (invB ((trimL lb).getD (((trimL lb).length) - 1) 0)))).map eB) w_ ∧ Ow 5 1 bo5 u3 (subl rl (trimL lb) (gm (rl.getD (n + (trimL lb).length - 1) 0) (invB ((trimL lb).getD ((trimL lb).length - 1) 0))) n k).length ((subl rl (trimL lb) (gm (rl.getD (n + (trimL lb).length - 1) 0) (invB ((trimL lb).getD ((trimL lb).length - 1) 0))) n k).map eB) w_) (fun (k : (Nat)) => (trimL lb).length - k) 0 rfl ?_ ?_
        · refine ⟨?_, ?_, ?_, ?_⟩
          · (try dsimp only)
            all_goals (exact Nat.zero_le _)
          · (try dsimp only)
            all_goals (exact Only.refl _ _)
          · (try dsimp only)
            all_goals (exact a26)
          · (try dsimp only)
            all_goals (rw [subl_zero]; exact f4)
        · rintro k z w29 ⟨hk, o28, a26, f4⟩
          (try dsimp only)
          replace h1 := h1.step o28 (or1_mono (orq_mono no_any))
          replace h2 := h2.step o28 (or1_mono (orq_mono no_any))
          replace f10 := f10.step o28 (or1_mono (orq_mono no_any))
          replace f16 := f16.step o28 (or1_mono (orq_mono no_any))
          replace oW := oW.tail o28 (tl_new g_oW_q (tl_q q_oW_r (fun _ e => by cases e) tl_no))
          replace o19 := o19.tail o28 (tl_in in1 (tl_q q_o19_r (fun k e => (.inr (.inl e))) tl_no))
          have q_o28_r : Fr bo5 bo5 w25.heap.size := Fr.same
          refine wpIn_seq ?_
          refine plain ?_
          refine wpL.is (v := (Value.bool (decide (k < ((trimL lb).length))))) rfl (n_lss (a := k) (b := ((trimL lb).length)) rfl rfl rfl) ?_
          refine wpL.flat [u1, u9, undef, undef, (sli q 0 ((trimL la).length) ((trimL la).length)), u3, (Value.bool false), (eB (invB ((trimL lb).getD (((trimL lb).length) - 1) 0))), (eN n), (z 9), (z 10), u1, u3, u2, u9, u9, (eN ((trimL lb).length)), (Value.bool (decide (((trimL lb).length) = 0))), u3, (eN ((trimL la).length)), (sli q 0 ((trimL la).length) ((trimL la).length)), u9, u9, (eN ((trimL lb).length)), (eN (((trimL lb).length) - 1)), u15, (eB ((trimL lb).getD (((trimL lb).length) - 1) 0)), (eB (invB ((trimL lb).getD (((trimL lb).length) - 1) 0))), u3, (eN ((trimL la).length)), u9, (eN ((trimL lb).length)), (eI (((trimL la).length : Int) - ((trimL lb).length : Int))), (eN n), (Value.bool (decide (0 ≤ (n : Int)))), (z 35), (z 36), (sli q 0 ((trimL la).length) ((trimL la).length)), (eN n), u3, (eN n), u9, (eN ((trimL lb).length)), (eN (n + ((trimL lb).length))), (eN ((n + ((trimL lb).length)) - 1)), u21, (eB (rl.getD ((n + ((trimL lb).length)) - 1) 0)), (eB (invB ((trimL lb).getD (((trimL lb).length) - 1) 0))), (eB (gm (rl.getD ((n + ((trimL lb).length)) - 1) 0) (invB ((trimL lb).getD (((trimL lb).length) - 1) 0)))), (ptr q n), u9, (eN ((trimL lb).length)), (eN k), (Value.bool (decide (k < ((trimL lb).length)))), (z 54), (z 55), (z 56), (z 57), (z 58), (z 59), (z 60), (z 61), (z 62), (z 63), (z 64), (z 65), (z 66), (z 67), (z 68), (z 69), (z 70), (z 71), undef, undef, undef, undef] (by kernel_rfl) ?_
          refine wpL.done ?_
          refine then_n ?_
          refine wpIn_seq ?_
          refine cond_if rfl (fun c2 => ?_) (fun c2 => ?_)
          · skip
            refine wpIn_skip ?_
            refine then_n ?_
            refine wpIn_seq ?_
            refine wpIn_block ?_
            refine wpIn_seq ?_
            refine plain ?_
            refine wpL.is (v := (eN k)) rfl (d_move (v := (eN k)) rfl) ?_
            refine wpL.op rfl (d_indexS (q := kB) (xs := (trimL lb)) (v := ((trimL lb).getD k 0)) Try.underlying23 s_ti5 rfl f10 (show _ = Value.int _ ((k : Nat) : Int) from rfl) (by omega) (g_at (by have := trimL_len lb; first | omega | (simp; done) | (simp; omega)))) ?_
            rintro u30 _ ⟨f31, rfl⟩
            refine wpL.is (v := (eB ((trimL lb).getD k 0))) rfl (d_loadAt (enc := eB) (v := ((trimL lb).getD k 0)) ⟨_, Try.underlying5, rfl⟩ rfl f31) ?_
            refine wpL.flat [u1, u9, undef, undef, (sli q 0 ((trimL la).length) ((trimL la).length)), u3, (Value.bool false), (eB (invB ((trimL lb).getD (((trimL lb).length) - 1) 0))), (eN n), (z 9), (z 10), u1, u3, u2, u9, u9, (eN ((trimL lb).length)), (Value.bool (decide (((trimL lb).length) = 0))), u3, (eN ((trimL la).length)), (sli q 0 ((trimL la).length) ((trimL la).length)), u9, u9, (eN ((trimL lb).length)), (eN (((trimL lb).length) - 1)), u15, (eB ((trimL lb).getD (((trimL lb).length) - 1) 0)), (eB (invB ((trimL lb).getD (((trimL lb).length) - 1) 0))), u3, (eN ((trimL la).length)), u9, (eN ((trimL lb).length)), (eI (((trimL la).length : Int) - ((trimL lb).length : Int))), (eN n), (Value.bool (decide (0 ≤ (n : Int)))), (z 35), (z 36), (sli q 0 ((trimL la).length) ((trimL la).length)), (eN n), u3, (eN n), u9, (eN ((trimL lb).length)), (eN (n + ((trimL lb).length))), (eN ((n + ((trimL lb).length)) - 1)), u21, (eB (rl.getD ((n + ((trimL lb).length)) - 1) 0)), (eB (invB ((trimL lb).getD (((trimL lb).length) - 1) 0))), (eB (gm (rl.getD ((n + ((trimL lb).length)) - 1) 0) (invB ((trimL lb).getD (((trimL lb).length) - 1) 0)))), (ptr q n), u9, (eN ((trimL lb).length)), (eN k), (Value.bool (decide (k < ((trimL lb).length)))), (eN k), u30, (eB ((trimL lb).getD k 0)), (z 57), (z 58), (z 59), (z 60), (z 61), (z 62), (z 63), (z 64), (z 65), (z 66), (z 67), (z 68), (z 69), (z 70), (z 71), undef, undef, undef, undef] (by kernel_rfl) ?_
            refine wpL.is (v := (eN k)) rfl (d_assign (v := (eN k)) rfl) ?_
            refine wpL.is (v := (eB ((trimL lb).getD k 0))) rfl (d_assign (v := (eB ((trimL lb).getD k 0))) rfl) ?_
            refine wpL.flat [u1, u9, undef, undef, (sli q 0 ((trimL la).length) ((trimL la).length)), u3, (Value.bool false), (eB (invB ((trimL lb).getD (((trimL lb).length) - 1) 0))), (eN n), (eN k), (eB ((trimL lb).getD k 0)), u1, u3, u2, u9, u9, (eN ((trimL lb).length)), (Value.bool (decide (((trimL lb).length) = 0))), u3, (eN ((trimL la).length)), (sli q 0 ((trimL la).length) ((trimL la).length)), u9, u9, (eN ((trimL lb).length)), (eN (((trimL lb).length) - 1)), u15, (eB ((trimL lb).getD (((trimL lb).length) - 1) 0)), (eB (invB ((trimL lb).getD (((trimL lb).length) - 1) 0))), u3, (eN ((trimL la).length)), u9, (eN ((trimL lb).length)), (eI (((trimL la).length : Int) - ((trimL lb).length : Int))), (eN n), (Value.bool (decide (0 ≤ (n : Int)))), (z 35), (z 36), (sli q 0 ((trimL la).length) ((trimL la).length)), (eN n), u3, (eN n), u9, (eN ((trimL lb).length)), (eN (n + ((trimL lb).length))), (eN ((n + ((trimL lb).length)) - 1)), u21, (eB (rl.getD ((n + ((trimL lb).length)) - 1) 0)), (eB (invB ((trimL lb).getD (((trimL lb).length) - 1) 0))), (eB (gm (rl.getD ((n + ((trimL lb).length)) - 1) 0) (invB ((trimL lb).getD (((trimL lb).length) - 1) 0)))), (ptr q n), u9, (eN ((trimL lb).length)), (eN k), (Value.bool (decide (k < ((trimL lb).length)))), (eN k), u30, (eB ((trimL lb).getD k 0)), (z 57), (z 58), (z 59), (z 60), (z 61), (z 62), (z 63), (z 64), (z 65), (z 66), (z 67), (z 68), (z 69), (z 70), (z 71), undef, undef, undef, undef] (by kernel_rfl) ?_
            refine wpL.done ?_
            refine then_n ?_
            refine drawn' (O := (Or1 q (Orq bo5 No))) (n := 15) [0, 0, 0, 6, 15, 31, 0, 0, 192, 448, 0, 1984, 4095, 8191, 16383] [(0, 57), (1, 58), (2, 59), (3, 60), (4, 61), (5, 62), (6, 63), (7, 64), (8, 65), (9, 66), (10, 67), (11, 68), (12, 69), (13, 70)] [0, 1, 2, 3, 4, 5, 6, 7, 8, 9, 10, 11, 12, 13] [14] (fun i_ => ([RF.is (Or1 q (Orq bo5 No)) u3, RF.is (Or1 q (Orq bo5 No)) (eN n), RF.is (Or1 q (Orq bo5 No)) (eN k), RF.is (Or1 q (Orq bo5 No)) (eN (n + k)), RF.pr (Or1 q (Orq bo5 No)) (InRow bo5 (n + k)), RF.is (Or1 q (Orq bo5 No)) (eB ((subl rl (trimL lb) (gm (rl.getD (n + (trimL lb).length - 1) 0) (invB ((trimL lb).getD ((trimL lb).length - 1) 0))) n k).getD (n + k) 0)), RF.is (Or1 q (Orq bo5 No)) (sli q 0 ((trimL la).length) ((trimL la).length)), RF.is (Or1 q (Orq bo5 No)) (eN n), RF.is (Or1 q (Orq bo5 No)) (ptr q n), RF.is (Or1 q (Orq bo5 No)) (eB ((ql.set n (gm (rl.getD ((n + ((trimL lb).length)) - 1) 0) (invB ((trimL lb).getD (((trimL lb).length) - 1) 0)))).getD n 0)), RF.is (Or1 q (Orq bo5 No)) (eB ((trimL lb).getD k 0)), RF.is (Or1 q (Orq bo5 No)) (eB (gm ((ql.set n (gm (rl.getD ((n + ((trimL lb).length)) - 1) 0) (invB ((trimL lb).getD (((trimL lb).length) - 1) 0)))).getD n 0) ((trimL lb).getD k 0))), RF.is (Or1 q (Orq bo5 No)) (eB (((subl rl (trimL lb) (gm (rl.getD (n + (trimL lb).length - 1) 0) (invB ((trimL lb).getD ((trimL lb).length - 1) 0))) n k).getD (n + k) 0) ^^^ (gm ((ql.set n (gm (rl.getD ((n + ((trimL lb).length)) - 1) 0) (invB ((trimL lb).getD (((trimL lb).length) - 1) 0)))).getD n 0) ((trimL lb).getD k 0)))), RF.pr (Or1 q (Orq bo5 No)) (InRow bo5 (n + k)), RF.any (Or1 q (Orq bo5 No))] : List (RF (Or1 q (Orq bo5 No)))).getD i_ (RF.any (Or1 q (Orq bo5 No)))) (fun k_ w_ => match k_ with | 0 => Arr 5 q ((ql.set n (gm (rl.getD ((n + ((trimL lb).length)) - 1) 0) (invB ((trimL lb).getD (((trimL lb).length) - 1) 0)))).map eB) w_ ∧ Ow 5 1 bo5 u3 (subl rl (trimL lb) (gm (rl.getD (n + (trimL lb).length - 1) 0) (invB ((trimL lb).getD ((trimL lb).length - 1) 0))) n k).length ((subl rl (trimL lb) (gm (rl.getD (n + (trimL lb).length - 1) 0) (invB ((trimL lb).getD ((trimL lb).length - 1) 0))) n k).map eB) w_ | _ => Arr 5 q ((ql.set n (gm (rl.getD ((n + ((trimL lb).length)) - 1) 0) (invB ((trimL lb).getD (((trimL lb).length) - 1) 0)))).map eB) w_ ∧ Ow 5 1 bo5 u3 ((subl rl (trimL lb) (gm (rl.getD (n + (trimL lb).length - 1) 0) (invB ((trimL lb).getD ((trimL lb).length - 1) 0))) n k).set (n + k) (((subl rl (trimL lb) (gm (rl.getD (n + (trimL lb).length - 1) 0) (invB ((trimL lb).getD ((trimL lb).length - 1) 0))) n k).getD (n + k) 0) ^^^ (gm ((ql.set n (gm (rl.getD ((n + ((trimL lb).length)) - 1) 0) (invB ((trimL lb).getD (((trimL lb).length) - 1) 0)))).getD n 0) ((trimL lb).getD k 0)))).length (((subl rl (trimL lb) (gm (rl.getD (n + (trimL lb).length - 1) 0) (invB ((trimL lb).getD ((trimL lb).length - 1) 0))) n k).set (n + k) (((subl rl (trimL lb) (gm (rl.getD (n + (trimL lb).length - 1) 0) (invB ((trimL lb).getD ((trimL lb).length - 1) 0))) n k).getD (n + k) 0) ^^^ (gm ((ql.set n (gm (rl.getD ((n + ((trimL lb).length)) - 1) 0) (invB ((trimL lb).getD (((trimL lb).length) - 1) 0)))).getD n 0) ((trimL lb).getD k 0)))).map eB) w_) (fun v32 => [u1, u9, undef, undef, (sli q 0 ((trimL la).length) ((trimL la).length)), u3, (Value.bool false), (eB (invB ((trimL lb).getD (((trimL lb).length) - 1) 0))), (eN n), (eN k), (eB ((trimL lb).getD k 0)), u1, u3, u2, u9, u9, (eN ((trimL lb).length)), (Value.bool (decide (((trimL lb).length) = 0))), u3, (eN ((trimL la).length)), (sli q 0 ((trimL la).length) ((trimL la).length)), u9, u9, (eN ((trimL lb).length)), (eN (((trimL lb).length) - 1)), u15, (eB ((trimL lb).getD (((trimL lb).length) - 1) 0)), (eB (invB ((trimL lb).getD (((trimL lb).length) - 1) 0))), u3, (eN ((trimL la).length)), u9, (eN ((trimL lb).length)), (eI (((trimL la).length : Int) - ((trimL lb).length : Int))), (eN n), (Value.bool (decide (0 ≤ (n : Int)))), (z 35), (z 36), (sli q 0 ((trimL la).length) ((trimL la).length)), (eN n), u3, (eN n), u9, (eN ((trimL lb).length)), (eN (n + ((trimL lb).length))), (eN ((n + ((trimL lb).length)) - 1)), u21, (eB (rl.getD ((n + ((trimL lb).length)) - 1) 0)), (eB (invB ((trimL lb).getD (((trimL lb).length) - 1) 0))), (eB (gm (rl.getD ((n + ((trimL lb).length)) - 1) 0) (invB ((trimL lb).getD (((trimL lb).length) - 1) 0)))), (ptr q n), u9, (eN ((trimL lb).length)), (eN k), (Value.bool (decide (k < ((trimL lb).length)))), (eN k), u30, (eB ((trimL lb).getD k 0)), (v32 0), (v32 1), (v32 2), (v32 3), (v32 4), (v32 5), (v32 6), (v32 7), (v32 8), (v32 9), (v32 10), (v32 11), (v32 12), (v32 13), (z 71), undef, undef, undef, undef]) s_mx (by kernel_rfl) rfl (by decide) (by rfl) (fun v_ => by kernel_rfl) (fun k_ => match k_ with | 0 => fun w_ w2_ h ho => by obtain ⟨r_a26, r_f4⟩ := h; exact ⟨r_a26.step0 ho, r_f4.step0 ho⟩ | (_ + 1) => fun w_ w2_ h ho => by obtain ⟨r_a26, r_f4⟩ := h; exact ⟨r_a26.step0 ho, r_f4.step0 ho⟩) ⟨a26, f4⟩ ?_ ?_ ?_
            · skip
              refine ls_cons ?_ ?_
              · intro v32 lo hi w_ k_ hO hd _ _ hk_ _ hR hold
                obtain rfl : k_ = 0 := Nat.le_zero.1 (hk_ 0 (by decide) (by kernel_rfl))
                obtain ⟨r_a26, r_f4⟩ := hR
                clear hd hold
                refine ⟨_, rfl, gd rfl ?_⟩
                exact Does.is (d_move (v := u3) rfl)
              refine ls_cons ?_ ?_
              · intro v32 lo hi w_ k_ hO hd _ _ hk_ _ hR hold
                obtain rfl : k_ = 0 := Nat.le_zero.1 (hk_ 0 (by decide) (by kernel_rfl))
                obtain ⟨r_a26, r_f4⟩ := hR
                clear hd hold
                refine ⟨_, rfl, gd rfl ?_⟩
                exact Does.is (d_move (v := (eN n)) rfl)
              refine ls_cons ?_ ?_
              · intro v32 lo hi w_ k_ hO hd _ _ hk_ _ hR hold
                obtain rfl : k_ = 0 := Nat.le_zero.1 (hk_ 0 (by decide) (by kernel_rfl))
                obtain ⟨r_a26, r_f4⟩ := hR
                clear hd hold
                refine ⟨_, rfl, gd rfl ?_⟩
                exact Does.is (d_move (v := (eN k)) rfl)
              refine ls_cons ?_ ?_
              · intro v32 lo hi w_ k_ hO hd _ _ hk_ _ hR hold
                obtain rfl : k_ = 0 := Nat.le_zero.1 (hk_ 0 (by decide) (by kernel_rfl))
                obtain ⟨r_a26, r_f4⟩ := hR
                have e1 : v32 1 = (eN n) := hd 1 (by kernel_rfl)
                have e2 : v32 2 = (eN k) := hd 2 (by kernel_rfl)
                clear hd hold
                refine ⟨_, rfl, gd rfl ?_⟩
                exact Does.is (n_add (a := n) (b := k) e1 e2 (by omega))
              refine ls_cons ?_ ?_
              · intro v32 lo hi w_ k_ hO hd _ _ hk_ _ hR hold
                obtain rfl : k_ = 0 := Nat.le_zero.1 (hk_ 0 (by decide) (by kernel_rfl))
                obtain ⟨r_a26, r_f4⟩ := hR
                have e0 : v32 0 = u3 := hd 0 (by kernel_rfl)
                have e3 : v32 3 = (eN (n + k)) := hd 3 (by kernel_rfl)
                clear hd hold
                refine ⟨_, rfl, gd rfl ?_⟩
                exact (d_indexOw (i := (n + k)) (xs := (subl rl (trimL lb) (gm (rl.getD (n + (trimL lb).length - 1) 0) (invB ((trimL lb).getD ((trimL lb).length - 1) 0))) n k)) (enc := eB) Try.underlying23 s_ti5 e0 r_f4 (show _ = Value.int _ ((n + k : Nat) : Int) from e3) (by have := subl_length rl (trimL lb) (gm (rl.getD (n + (trimL lb).length - 1) 0) (invB ((trimL lb).getD ((trimL lb).length - 1) 0))) n k; have := trimL_len lb; first | omega | (simp; done) | (simp; omega))).mono (fun u w' h => ⟨h.1, h.2 ▸ Only.refl _ _⟩)
              refine ls_cons ?_ ?_
              · intro v32 lo hi w_ k_ hO hd _ _ hk_ _ hR hold
                obtain rfl : k_ = 0 := Nat.le_zero.1 (hk_ 0 (by decide) (by kernel_rfl))
                obtain ⟨r_a26, r_f4⟩ := hR
                have p4 : InRow bo5 (n + k) (v32 4) := hd 4 (by kernel_rfl)
                clear hd hold
                refine ⟨_, rfl, gd rfl ?_⟩
                exact Does.is (d_loadOw (i := (n + k)) (xs := (subl rl (trimL lb) (gm (rl.getD (n + (trimL lb).length - 1) 0) (invB ((trimL lb).getD ((trimL lb).length - 1) 0))) n k)) (enc := eB) (v := ((subl rl (trimL lb) (gm (rl.getD (n + (trimL lb).length - 1) 0) (invB ((trimL lb).getD ((trimL lb).length - 1) 0))) n k).getD (n + k) 0)) ⟨_, Try.underlying5, rfl⟩ rfl p4 r_f4 (g_at (by have := subl_length rl (trimL lb) (gm (rl.getD (n + (trimL lb).length - 1) 0) (invB ((trimL lb).getD ((trimL lb).length - 1) 0))) n k; have := trimL_len lb; first | omega | (simp; done) | (simp; omega))))
              refine ls_cons ?_ ?_
              · intro v32 lo hi w_ k_ hO hd _ _ hk_ _ hR hold
                obtain rfl : k_ = 0 := Nat.le_zero.1 (hk_ 0 (by decide) (by kernel_rfl))
                obtain ⟨r_a26, r_f4⟩ := hR
                clear hd hold
                refine ⟨_, rfl, gd rfl ?_⟩
                exact Does.is (d_move (v := (sli q 0 ((trimL la).length) ((trimL la).length))) rfl)
              refine ls_cons ?_ ?_
              · intro v32 lo hi w_ k_ hO hd _ _ hk_ _ hR hold
                obtain rfl : k_ = 0 := Nat.le_zero.1 (hk_ 0 (by decide) (by kernel_rfl))
                obtain ⟨r_a26, r_f4⟩ := hR
                clear hd hold
                refine ⟨_, rfl, gd rfl ?_⟩
                exact Does.is (d_move (v := (eN n)) rfl)
              refine ls_cons ?_ ?_
              · intro v32 lo hi w_ k_ hO hd _ _ hk_ _ hR hold
                obtain rfl : k_ = 0 := Nat.le_zero.1 (hk_ 0 (by decide) (by kernel_rfl))
                obtain ⟨r_a26, r_f4⟩ := hR
                have e6 : v32 6 = (sli q 0 ((trimL la).length) ((trimL la).length)) := hd 6 (by kernel_rfl)
                have e7 : v32 7 = (eN n) := hd 7 (by kernel_rfl)
                clear hd hold
                refine ⟨_, rfl, gd rfl ?_⟩
                exact Does.is (d_index1 (n := ((trimL la).length)) (i := n) Try.underlying23 s_ti5 e6 (show _ = Value.int _ ((n : Nat) : Int) from e7) (by omega))
              refine ls_cons ?_ ?_
              · intro v32 lo hi w_ k_ hO hd _ _ hk_ _ hR hold
                obtain rfl : k_ = 0 := Nat.le_zero.1 (hk_ 0 (by decide) (by kernel_rfl))
                obtain ⟨r_a26, r_f4⟩ := hR
                have e8 : v32 8 = (ptr q n) := hd 8 (by kernel_rfl)
                clear hd hold
                refine ⟨_, rfl, gd rfl ?_⟩
                exact Does.is (d_load ⟨_, Try.underlying5, rfl⟩ e8 r_a26 (m_at (d := 0) (by rw [l_q]; omega)))
              refine ls_cons ?_ ?_
              · intro v32 lo hi w_ k_ hO hd _ _ hk_ _ hR hold
                obtain rfl : k_ = 0 := Nat.le_zero.1 (hk_ 0 (by decide) (by kernel_rfl))
                obtain ⟨r_a26, r_f4⟩ := hR
                clear hd hold
                refine ⟨_, rfl, gd rfl ?_⟩
                exact Does.is (d_move (v := (eB ((trimL lb).getD k 0))) rfl)
              refine ls_cons ?_ ?_
              · intro v32 lo hi w_ k_ hO hd _ _ hk_ _ hR hold
                obtain rfl : k_ = 0 := Nat.le_zero.1 (hk_ 0 (by decide) (by kernel_rfl))
                obtain ⟨r_a26, r_f4⟩ := hR
                have e10 : v32 10 = (eB ((trimL lb).getD k 0)) := hd 10 (by kernel_rfl)
                have e9 : v32 9 = (eB ((ql.set n (gm (rl.getD ((n + ((trimL lb).length)) - 1) 0) (invB ((trimL lb).getD (((trimL lb).length) - 1) 0)))).getD n 0)) := hd 9 (by kernel_rfl)
                clear hd hold
                refine ⟨_, rfl, gd rfl ?_⟩
                exact d_call (xl := [.tmp 66, .tmp 67]) (al := [(eB ((ql.set n (gm (rl.getD ((n + ((trimL lb).length)) - 1) 0) (invB ((trimL lb).getD (((trimL lb).length) - 1) 0)))).getD n 0)), (eB ((trimL lb).getD k 0))]) Try.func28 (by kernel_rfl) rfl (show ([(v32 9), (v32 10)] : List Value) = [(eB ((ql.set n (gm (rl.getD ((n + ((trimL lb).length)) - 1) 0) (invB ((trimL lb).getD (((trimL lb).length) - 1) 0)))).getD n 0)), (eB ((trimL lb).getD k 0))] from by rw [e9, e10]) rfl (gfMul_ok ((ql.set n (gm (rl.getD ((n + ((trimL lb).length)) - 1) 0) (invB ((trimL lb).getD (((trimL lb).length) - 1) 0)))).getD n 0) ((trimL lb).getD k 0) _)
              refine ls_cons ?_ ?_
              · intro v32 lo hi w_ k_ hO hd _ _ hk_ _ hR hold
                obtain rfl : k_ = 0 := Nat.le_zero.1 (hk_ 0 (by decide) (by kernel_rfl))
                obtain ⟨r_a26, r_f4⟩ := hR
                have e11 : v32 11 = (eB (gm ((ql.set n (gm (rl.getD ((n + ((trimL lb).length)) - 1) 0) (invB ((trimL lb).getD (((trimL lb).length) - 1) 0)))).getD n 0) ((trimL lb).getD k 0))) := hd 11 (by kernel_rfl)
                have e5 : v32 5 = (eB ((subl rl (trimL lb) (gm (rl.getD (n + (trimL lb).length - 1) 0) (invB ((trimL lb).getD ((trimL lb).length - 1) 0))) n k).getD (n + k) 0)) := hd 5 (by kernel_rfl)
                clear hd hold
                refine ⟨_, rfl, gd rfl ?_⟩
                exact Does.is (b_xor (c := ((subl rl (trimL lb) (gm (rl.getD (n + (trimL lb).length - 1) 0) (invB ((trimL lb).getD ((trimL lb).length - 1) 0))) n k).getD (n + k) 0)) (e := (gm ((ql.set n (gm (rl.getD ((n + ((trimL lb).length)) - 1) 0) (invB ((trimL lb).getD (((trimL lb).length) - 1) 0)))).getD n 0) ((trimL lb).getD k 0))) e5 e11)
              refine ls_cons ?_ ?_
              · intro v32 lo hi w_ k_ hO hd _ _ hk_ _ hR hold
                obtain rfl : k_ = 0 := Nat.le_zero.1 (hk_ 0 (by decide) (by kernel_rfl))
                obtain ⟨r_a26, r_f4⟩ := hR
                have e0 : v32 0 = u3 := hd 0 (by kernel_rfl)
                have e3 : v32 3 = (eN (n + k)) := hd 3 (by kernel_rfl)
                clear hd hold
                refine ⟨_, rfl, gd rfl ?_⟩
                exact (d_indexOw (i := (n + k)) (xs := (subl rl (trimL lb) (gm (rl.getD (n + (trimL lb).length - 1) 0) (invB ((trimL lb).getD ((trimL lb).length - 1) 0))) n k)) (enc := eB) Try.underlying23 s_ti5 e0 r_f4 (show _ = Value.int _ ((n + k : Nat) : Int) from e3) (by have := subl_length rl (trimL lb) (gm (rl.getD (n + (trimL lb).length - 1) 0) (invB ((trimL lb).getD ((trimL lb).length - 1) 0))) n k; have := trimL_len lb; first | omega | (simp; done) | (simp; omega))).mono (fun u w' h => ⟨h.1, h.2 ▸ Only.refl _ _⟩)
              exact ls_nil
            · skip
              refine ms_one ?_
              · intro v32 lo hi w_ hO hd _ hR hold
                obtain ⟨r_a26, r_f4⟩ := hR
                have e12 : v32 12 = (eB (((subl rl (trimL lb) (gm (rl.getD (n + (trimL lb).length - 1) 0) (invB ((trimL lb).getD ((trimL lb).length - 1) 0))) n k).getD (n + k) 0) ^^^ (gm ((ql.set n (gm (rl.getD ((n + ((trimL lb).length)) - 1) 0) (invB ((trimL lb).getD (((trimL lb).length) - 1) 0)))).getD n 0) ((trimL lb).getD k 0)))) := hd 12 (by kernel_rfl)
                have p13 : InRow bo5 (n + k) (v32 13) := hd 13 (by kernel_rfl)
                clear hd hold
                refine ⟨_, rfl, gd rfl ?_⟩
                exact (d_storeOw (i := (n + k)) (xs := (subl rl (trimL lb) (gm (rl.getD (n + (trimL lb).length - 1) 0) (invB ((trimL lb).getD ((trimL lb).length - 1) 0))) n k)) (enc := eB) (v := (((subl rl (trimL lb) (gm (rl.getD (n + (trimL lb).length - 1) 0) (invB ((trimL lb).getD ((trimL lb).length - 1) 0))) n k).getD (n + k) 0) ^^^ (gm ((ql.set n (gm (rl.getD ((n + ((trimL lb).length)) - 1) 0) (invB ((trimL lb).getD (((trimL lb).length) - 1) 0)))).getD n 0) ((trimL lb).getD k 0)))) s_ti5 rfl p13 e12 rfl r_f4 (by have := subl_length rl (trimL lb) (gm (rl.getD (n + (trimL lb).length - 1) 0) (invB ((trimL lb).getD ((trimL lb).length - 1) 0))) n k; have := trimL_len lb; first | omega | (simp; done) | (simp; omega)) rfl).mono (fun u w' h => ⟨trivial, ⟨r_a26.step h.2 (fun e => nq_r_q _ e rfl), h.1⟩, h.2.mono (fun k _ (e : bo5 = some k) => (.inr (.inl e)))⟩)
            intro v32 lo_ hi_ w33 o34 hd iv_ hR
            have e0 : v32 0 = u3 := hd 0 (by decide)
            have e1 : v32 1 = (eN n) := hd 1 (by decide)
            have e2 : v32 2 = (eN k) := hd 2 (by decide)
            have e3 : v32 3 = (eN (n + k)) := hd 3 (by decide)
            have e5 : v32 5 = (eB ((subl rl (trimL lb) (gm (rl.getD (n + (trimL lb).length - 1) 0) (invB ((trimL lb).getD ((trimL lb).length - 1) 0))) n k).getD (n + k) 0)) := hd 5 (by decide)
            have e6 : v32 6 = (sli q 0 ((trimL la).length) ((trimL la).length)) := hd 6 (by decide)
            have e7 : v32 7 = (eN n) := hd 7 (by decide)
            have e8 : v32 8 = (ptr q n) := hd 8 (by decide)
            have e9 : v32 9 = (eB ((ql.set n (gm (rl.getD ((n + ((trimL lb).length)) - 1) 0) (invB ((trimL lb).getD (((trimL lb).length) - 1) 0)))).getD n 0)) := hd 9 (by decide)
            have e10 : v32 10 = (eB ((trimL lb).getD k 0)) := hd 10 (by decide)
            have e11 : v32 11 = (eB (gm ((ql.set n (gm (rl.getD ((n + ((trimL lb).length)) - 1) 0) (invB ((trimL lb).getD (((trimL lb).length) - 1) 0)))).getD n 0) ((trimL lb).getD k 0))) := hd 11 (by decide)
            have e12 : v32 12 = (eB (((subl rl (trimL lb) (gm (rl.getD (n + (trimL lb).length - 1) 0) (invB ((trimL lb).getD ((trimL lb).length - 1) 0))) n k).getD (n + k) 0) ^^^ (gm ((ql.set n (gm (rl.getD ((n + ((trimL lb).length)) - 1) 0) (invB ((trimL lb).getD (((trimL lb).length) - 1) 0)))).getD n 0) ((trimL lb).getD k 0)))) := hd 12 (by decide)
            have p_v32_4 : InRow bo5 (n + k) (v32 4) := hd 4 (by decide)
            have p_v32_13 : InRow bo5 (n + k) (v32 13) := hd 13 (by decide)
            clear hd iv_ lo_ hi_
            refine fr_eq (l' := [u1, u9, undef, undef, (sli q 0 ((trimL la).length) ((trimL la).length)), u3, (Value.bool false), (eB (invB ((trimL lb).getD (((trimL lb).length) - 1) 0))), (eN n), (eN k), (eB ((trimL lb).getD k 0)), u1, u3, u2, u9, u9, (eN ((trimL lb).length)), (Value.bool (decide (((trimL lb).length) = 0))), u3, (eN ((trimL la).length)), (sli q 0 ((trimL la).length) ((trimL la).length)), u9, u9, (eN ((trimL lb).length)), (eN (((trimL lb).length) - 1)), u15, (eB ((trimL lb).getD (((trimL lb).length) - 1) 0)), (eB (invB ((trimL lb).getD (((trimL lb).length) - 1) 0))), u3, (eN ((trimL la).length)), u9, (eN ((trimL lb).length)), (eI (((trimL la).length : Int) - ((trimL lb).length : Int))), (eN n), (Value.bool (decide (0 ≤ (n : Int)))), (z 35), (z 36), (sli q 0 ((trimL la).length) ((trimL la).length)), (eN n), u3, (eN n), u9, (eN ((trimL lb).length)), (eN (n + ((trimL lb).length))), (eN ((n + ((trimL lb).length)) - 1)), u21, (eB (rl.getD ((n + ((trimL lb).length)) - 1) 0)), (eB (invB ((trimL lb).getD (((trimL lb).length) - 1) 0))), (eB (gm (rl.getD ((n + ((trimL lb).length)) - 1) 0) (invB ((trimL lb).getD (((trimL lb).length) - 1) 0)))), (ptr q n), u9, (eN ((trimL lb).length)), (eN k), (Value.bool (decide (k < ((trimL lb).length)))), (eN k), u30, (eB ((trimL lb).getD k 0)), u3, (eN n), (eN k), (eN (n + k)), (v32 4), (eB ((subl rl (trimL lb) (gm (rl.getD (n + (trimL lb).length - 1) 0) (invB ((trimL lb).getD ((trimL lb).length - 1) 0))) n k).getD (n + k) 0)), (sli q 0 ((trimL la).length) ((trimL la).length)), (eN n), (ptr q n), (eB ((ql.set n (gm (rl.getD ((n + ((trimL lb).length)) - 1) 0) (invB ((trimL lb).getD (((trimL lb).length) - 1) 0)))).getD n 0)), (eB ((trimL lb).getD k 0)), (eB (gm ((ql.set n (gm (rl.getD ((n + ((trimL lb).length)) - 1) 0) (invB ((trimL lb).getD (((trimL lb).length) - 1) 0)))).getD n 0) ((trimL lb).getD k 0))), (eB (((subl rl (trimL lb) (gm (rl.getD (n + (trimL lb).length - 1) 0) (invB ((trimL lb).getD ((trimL lb).length - 1) 0))) n k).getD (n + k) 0) ^^^ (gm ((ql.set n (gm (rl.getD ((n + ((trimL lb).length)) - 1) 0) (invB ((trimL lb).getD (((trimL lb).length) - 1) 0)))).getD n 0) ((trimL lb).getD k 0)))), (v32 13), (z 71), undef, undef, undef, undef]) (by rw [e0, e1, e2, e3, e5, e6, e7, e8, e9, e10, e11, e12]) ?_
            clear e0 e1 e2 e3 e5 e6 e7 e8 e9 e10 e11 e12
            replace h1 := h1.step o34 (or1_mono (orq_mono no_any))
            replace h2 := h2.step o34 (or1_mono (orq_mono no_any))
            replace f10 := f10.step o34 (or1_mono (orq_mono no_any))
            replace f16 := f16.step o34 (or1_mono (orq_mono no_any))
            replace f31 := f31.step o34 (or1_mono (orq_mono no_any))
            obtain ⟨xr_a26, xr_f4⟩ := hR
            replace a26 : Arr 5 q ((ql.set n (gm (rl.getD ((n + ((trimL lb).length)) - 1) 0) (invB ((trimL lb).getD (((trimL lb).length) - 1) 0)))).map eB) w33 := xr_a26
            replace f4 : Ow 5 1 bo5 u3 ((subl rl (trimL lb) (gm (rl.getD (n + (trimL lb).length - 1) 0) (invB ((trimL lb).getD ((trimL lb).length - 1) 0))) n k).set (n + k) (((subl rl (trimL lb) (gm (rl.getD (n + (trimL lb).length - 1) 0) (invB ((trimL lb).getD ((trimL lb).length - 1) 0))) n k).getD (n + k) 0) ^^^ (gm ((ql.set n (gm (rl.getD ((n + ((trimL lb).length)) - 1) 0) (invB ((trimL lb).getD (((trimL lb).length) - 1) 0)))).getD n 0) ((trimL lb).getD k 0)))).length (((subl rl (trimL lb) (gm (rl.getD (n + (trimL lb).length - 1) 0) (invB ((trimL lb).getD ((trimL lb).length - 1) 0))) n k).set (n + k) (((subl rl (trimL lb) (gm (rl.getD (n + (trimL lb).length - 1) 0) (invB ((trimL lb).getD ((trimL lb).length - 1) 0))) n k).getD (n + k) 0) ^^^ (gm ((ql.set n (gm (rl.getD ((n + ((trimL lb).length)) - 1) 0) (invB ((trimL lb).getD (((trimL lb).length) - 1) 0)))).getD n 0) ((trimL lb).getD k 0)))).map eB) w33 := xr_f4
            clear xr_a26 xr_f4
            replace oW := oW.tail o34 (tl_new g_oW_q (tl_q q_oW_r (fun _ e => by cases e) tl_no))
            replace o19 := o19.tail o34 (tl_in in1 (tl_q q_o19_r (fun k e => (.inr (.inl e))) tl_no))
            replace o28 := o28.tail o34 (tl_in in1 (tl_q q_o28_r (fun k e => (.inr (.inl e))) tl_no))
            refine inb_n (then_n ?_)
            refine plain ?_
            refine wpL.is (v := (eN (k + 1))) rfl (n_add (a := k) (b := 1) rfl rfl (by omega)) ?_
            refine wpL.is (v := (eN (k + 1))) rfl (d_move (v := (eN (k + 1))) rfl) ?_
            refine wpL.flat [u1, u9, undef, undef, (sli q 0 ((trimL la).length) ((trimL la).length)), u3, (Value.bool false), (eB (invB ((trimL lb).getD (((trimL lb).length) - 1) 0))), (eN n), (eN k), (eB ((trimL lb).getD k 0)), u1, u3, u2, u9, u9, (eN ((trimL lb).length)), (Value.bool (decide (((trimL lb).length) = 0))), u3, (eN ((trimL la).length)), (sli q 0 ((trimL la).length) ((trimL la).length)), u9, u9, (eN ((trimL lb).length)), (eN (((trimL lb).length) - 1)), u15, (eB ((trimL lb).getD (((trimL lb).length) - 1) 0)), (eB (invB ((trimL lb).getD (((trimL lb).length) - 1) 0))), u3, (eN ((trimL la).length)), u9, (eN ((trimL lb).length)), (eI (((trimL la).length : Int) - ((trimL lb).length : Int))), (eN n), (Value.bool (decide (0 ≤ (n : Int)))), (z 35), (z 36), (sli q 0 ((trimL la).length) ((trimL la).length)), (eN n), u3, (eN n), u9, (eN ((trimL lb).length)), (eN (n + ((trimL lb).length))), (eN ((n + ((trimL lb).length)) - 1)), u21, (eB (rl.getD ((n + ((trimL lb).length)) - 1) 0)), (eB (invB ((trimL lb).getD (((trimL lb).length) - 1) 0))), (eB (gm (rl.getD ((n + ((trimL lb).length)) - 1) 0) (invB ((trimL lb).getD (((trimL lb).length) - 1) 0)))), (ptr q n), u9, (eN ((trimL lb).length)), (eN (k + 1)), (Value.bool (decide (k < ((trimL lb).length)))), (eN k), u30, (eB ((trimL lb).getD k 0)), u3, (eN n), (eN k), (eN (n + k)), (v32 4), (eB ((subl rl (trimL lb) (gm (rl.getD (n + (trimL lb).length - 1) 0) (invB ((trimL lb).getD ((trimL lb).length - 1) 0))) n k).getD (n + k) 0)), (sli q 0 ((trimL la).length) ((trimL la).length)), (eN n), (ptr q n), (eB ((ql.set n (gm (rl.getD ((n + ((trimL lb).length)) - 1) 0) (invB ((trimL lb).getD (((trimL lb).length) - 1) 0)))).getD n 0)), (eB ((trimL lb).getD k 0)), (eB (gm ((ql.set n (gm (rl.getD ((n + ((trimL lb).length)) - 1) 0) (invB ((trimL lb).getD (((trimL lb).length) - 1) 0)))).getD n 0) ((trimL lb).getD k 0))), (eB (((subl rl (trimL lb) (gm (rl.getD (n + (trimL lb).length - 1) 0) (invB ((trimL lb).getD ((trimL lb).length - 1) 0))) n k).getD (n + k) 0) ^^^ (gm ((ql.set n (gm (rl.getD ((n + ((trimL lb).length)) - 1) 0) (invB ((trimL lb).getD (((trimL lb).length) - 1) 0)))).getD n 0) ((trimL lb).getD k 0)))), (v32 13), (eN (k + 1)), undef, undef, undef, undef] (by kernel_rfl) ?_
            refine wpL.done ?_
            refine then_n ?_
            rw [getD_set_self hn] at f4
            refine ⟨_, (k + 1), rfl, rfl, ⟨?_, ?_, ?_, ?_⟩, ?_⟩
            · (try dsimp only)
              all_goals (omega)
            · (try dsimp only)
              all_goals (exact o28)
            · (try dsimp only)
              all_goals (exact a26)
            · (try dsimp only)
              all_goals (rw [← subl_step (by omega)]; exact f4)
            · (try dsimp only)
              all_goals (omega)
          · skip
            refine wpIn_exit ?_
            refine then_x (then_x (inb_e ?_))
            refine inb_n (then_n ?_)
            refine plain ?_
            refine wpL.is (v := (eN n)) rfl (d_move (v := (eN n)) rfl) ?_
            refine wpL.is (v := (eI ((n : Int) - 1))) rfl (d_sub (k := .i64) (m := ((n : Nat) : Int)) (n := 1) rfl rfl (r := (n : Int) - 1) (IntWalk.i64_in _ (by have := trimL_len la; omega))) ?_
            refine wpL.is (v := (eI ((n : Int) - 1))) rfl (d_assign (v := (eI ((n : Int) - 1))) rfl) ?_
            refine wpL.flat [u1, u9, undef, undef, (sli q 0 ((trimL la).length) ((trimL la).length)), u3, (Value.bool false), (eB (invB ((trimL lb).getD (((trimL lb).length) - 1) 0))), (eI ((n : Int) - 1)), (z 9), (z 10), u1, u3, u2, u9, u9, (eN ((trimL lb).length)), (Value.bool (decide (((trimL lb).length) = 0))), u3, (eN ((trimL la).length)), (sli q 0 ((trimL la).length) ((trimL la).length)), u9, u9, (eN ((trimL lb).length)), (eN (((trimL lb).length) - 1)), u15, (eB ((trimL lb).getD (((trimL lb).length) - 1) 0)), (eB (invB ((trimL lb).getD (((trimL lb).length) - 1) 0))), u3, (eN ((trimL la).length)), u9, (eN ((trimL lb).length)), (eI (((trimL la).length : Int) - ((trimL lb).length : Int))), (eN n), (Value.bool (decide (0 ≤ (n : Int)))), (eN n), (eI ((n : Int) - 1)), (sli q 0 ((trimL la).length) ((trimL la).length)), (eN n), u3, (eN n), u9, (eN ((trimL lb).length)), (eN (n + ((trimL lb).length))), (eN ((n + ((trimL lb).length)) - 1)), u21, (eB (rl.getD ((n + ((trimL lb).length)) - 1) 0)), (eB (invB ((trimL lb).getD (((trimL lb).length) - 1) 0))), (eB (gm (rl.getD ((n + ((trimL lb).length)) - 1) 0) (invB ((trimL lb).getD (((trimL lb).length) - 1) 0)))), (ptr q n), u9, (eN ((trimL lb).length)), (eN k), (Value.bool (decide (k < ((trimL lb).length)))), (z 54), (z 55), (z 56), (z 57), (z 58), (z 59), (z 60), (z 61), (z 62), (z 63), (z 64), (z 65), (z 66), (z 67), (z 68), (z 69), (z 70), (z 71), undef, undef, undef, undef] (by kernel_rfl) ?_
            refine wpL.done ?_
            refine then_n ?_
            obtain rfl : k = (trimL lb).length := by omega
            refine ⟨_, ⟨(n : Int) - 1, ql.set n (gm (rl.getD (n + (trimL lb).length - 1) 0) (invB ((trimL lb).getD ((trimL lb).length - 1) 0))), subl rl (trimL lb) (gm (rl.getD (n + (trimL lb).length - 1) 0) (invB ((trimL lb).getD ((trimL lb).length - 1) 0))) n (trimL lb).length⟩, rfl, rfl, ⟨?_, ?_, ?_, ?_, ?_, ?_, ?_⟩, ?_⟩
            · (try dsimp only)
              all_goals (omega)
            · (try dsimp only)
              all_goals (exact (subl_length ..).trans hr)
            · (try dsimp only)
              all_goals (exact DivInv.step hI hn (by omega) hb htop rfl)
            · (try dsimp only)
              all_goals (exact o19)
            · (try dsimp only)
              all_goals (simpa using l_q)
            · (try dsimp only)
              all_goals (exact a26)
            · (try dsimp only)
              all_goals (exact f4)
            · (try dsimp only)
              all_goals (omega)
      · skip
        refine wpIn_exit ?_
        refine then_x (then_x (inb_e ?_))
        refine then_n ?_
        refine wpIn_seq ?_
        refine plain ?_
        refine wpL.is (v := (sli q 0 ((trimL la).length) ((trimL la).length))) rfl (d_move (v := (sli q 0 ((trimL la).length) ((trimL la).length))) rfl) ?_
        refine wpL.op rfl (d_call (xl := [.tmp 72]) (al := [(sli q 0 ((trimL la).length) ((trimL la).length))]) Try.func18 (by kernel_rfl) rfl rfl rfl (trim_ok ql (sli q 0 ((trimL la).length) ((trimL la).length)) _ (Ps.no (arr_seq a13 l_q (Nat.le_refl _))) (by first | omega | (simp; done) | (simp; omega)))) ?_
        rintro u37 w35 f38
        replace f38 := f38.ps
        obtain ⟨f38, o36⟩ := f38
        replace f38 := f38.less (Y := (Or1 q (Orq bo5 (Old W.heap.size)))) (or1_old a13.lt (orq_old (fun x hx => by subst hx; exact f4.lt) (old_old oW.size)))
        replace h1 := h1.step0 o36
        replace h2 := h2.step0 o36
        replace f10 := f10.step0 o36
        replace f16 := f16.step0 o36
        replace a13 := a13.step0 o36
        replace f4 := f4.step0 o36
        replace oW := oW.tail0 o36
        replace o19 := o19.tail0 o36
        refine wpL.is (v := u3) rfl (d_move (v := u3) rfl) ?_
        refine wpL.flat [u1, u9, undef, undef, (sli q 0 ((trimL la).length) ((trimL la).length)), u3, (Value.bool false), (eB (invB ((trimL lb).getD (((trimL lb).length) - 1) 0))), (eI i), (z 9), (z 10), u1, u3, u2, u9, u9, (eN ((trimL lb).length)), (Value.bool (decide (((trimL lb).length) = 0))), u3, (eN ((trimL la).length)), (sli q 0 ((trimL la).length) ((trimL la).length)), u9, u9, (eN ((trimL lb).length)), (eN (((trimL lb).length) - 1)), u15, (eB ((trimL lb).getD (((trimL lb).length) - 1) 0)), (eB (invB ((trimL lb).getD (((trimL lb).length) - 1) 0))), u3, (eN ((trimL la).length)), u9, (eN ((trimL lb).length)), (eI (((trimL la).length : Int) - ((trimL lb).length : Int))), (eI i), (Value.bool (decide (0 ≤ i))), (z 35), (z 36), (z 37), (z 38), (z 39), (z 40), (z 41), (z 42), (z 43), (z 44), (z 45), (z 46), (z 47), (z 48), (z 49), (z 50), (z 51), (z 52), (z 53), (z 54), (z 55), (z 56), (z 57), (z 58), (z 59), (z 60), (z 61), (z 62), (z 63), (z 64), (z 65), (z 66), (z 67), (z 68), (z 69), (z 70), (z 71), (sli q 0 ((trimL la).length) ((trimL la).length)), u37, u3, undef] (by kernel_rfl) ?_
        refine wpL.op rfl (d_call (xl := [.tmp 74]) (al := [u3]) Try.func18 (by kernel_rfl) rfl rfl rfl (trim_ok rl u3 _ (Ps.no (f4.seq (X := No) (fun _ _ h => h))) (by first | omega | (simp; done) | (simp; omega)))) ?_
        rintro u41 w39 f42
        replace f42 := f42.ps
        obtain ⟨f42, o40⟩ := f42
        replace f42 := f42.less (Y := (Or1 q (Orq bo5 (Old W.heap.size)))) (or1_old a13.lt (orq_old (fun x hx => by subst hx; exact f4.lt) (old_old oW.size)))
        replace h1 := h1.step0 o40
        replace h2 := h2.step0 o40
        replace f10 := f10.step0 o40
        replace f16 := f16.step0 o40
        replace f38 := f38.step0 o40
        replace a13 := a13.step0 o40
        replace f4 := f4.step0 o40
        replace oW := oW.tail0 o40
        replace o19 := o19.tail0 o40
        refine wpL.is (v := u37) rfl (d_assign (v := u37) rfl) ?_
        refine wpL.is (v := u41) rfl (d_assign (v := u41) rfl) ?_
        refine wpL.flat [u1, u9, undef, undef, u37, u41, (Value.bool false), (eB (invB ((trimL lb).getD (((trimL lb).length) - 1) 0))), (eI i), (z 9), (z 10), u1, u3, u2, u9, u9, (eN ((trimL lb).length)), (Value.bool (decide (((trimL lb).length) = 0))), u3, (eN ((trimL la).length)), (sli q 0 ((trimL la).length) ((trimL la).length)), u9, u9, (eN ((trimL lb).length)), (eN (((trimL lb).length) - 1)), u15, (eB ((trimL lb).getD (((trimL lb).length) - 1) 0)), (eB (invB ((trimL lb).getD (((trimL lb).length) - 1) 0))), u3, (eN ((trimL la).length)), u9, (eN ((trimL lb).length)), (eI (((trimL la).length : Int) - ((trimL lb).length : Int))), (eI i), (Value.bool (decide (0 ≤ i))), (z 35), (z 36), (z 37), (z 38), (z 39), (z 40), (z 41), (z 42), (z 43), (z 44), (z 45), (z 46), (z 47), (z 48), (z 49), (z 50), (z 51), (z 52), (z 53), (z 54), (z 55), (z 56), (z 57), (z 58), (z 59), (z 60), (z 61), (z 62), (z 63), (z 64), (z 65), (z 66), (z 67), (z 68), (z 69), (z 70), (z 71), (sli q 0 ((trimL la).length) ((trimL la).length)), u37, u3, u41] (by kernel_rfl) ?_
        refine wpL.is (v := (Value.bool true)) rfl (d_assign (v := (Value.bool true)) rfl) ?_
        refine wpL.flat [u1, u9, undef, undef, u37, u41, (Value.bool true), (eB (invB ((trimL lb).getD (((trimL lb).length) - 1) 0))), (eI i), (z 9), (z 10), u1, u3, u2, u9, u9, (eN ((trimL lb).length)), (Value.bool (decide (((trimL lb).length) = 0))), u3, (eN ((trimL la).length)), (sli q 0 ((trimL la).length) ((trimL la).length)), u9, u9, (eN ((trimL lb).length)), (eN (((trimL lb).length) - 1)), u15, (eB ((trimL lb).getD (((trimL lb).length) - 1) 0)), (eB (invB ((trimL lb).getD (((trimL lb).length) - 1) 0))), u3, (eN ((trimL la).length)), u9, (eN ((trimL lb).length)), (eI (((trimL la).length : Int) - ((trimL lb).length : Int))), (eI i), (Value.bool (decide (0 ≤ i))), (z 35), (z 36), (z 37), (z 38), (z 39), (z 40), (z 41), (z 42), (z 43), (z 44), (z 45), (z 46), (z 47), (z 48), (z 49), (z 50), (z 51), (z 52), (z 53), (z 54), (z 55), (z 56), (z 57), (z 58), (z 59), (z 60), (z 61), (z 62), (z 63), (z 64), (z 65), (z 66), (z 67), (z 68), (z 69), (z 70), (z 71), (sli q 0 ((trimL la).length) ((trimL la).length)), u37, u3, u41] (by kernel_rfl) ?_
        refine wpL.done ?_
        refine then_n ?_
        refine wpIn_ret ?_
        refine leave0 (v := (Value.tuple #[u37, u41, (Value.bool true)])) (res3 Try.results21 rfl rfl rfl) ?_
        have hd := div_is (DivInv.done hI (by omega) hb)
        exact ⟨_, _, by rw [isP_yes (fun e => c0 (by rw [e]; rfl))], by rw [hd.1]; exact (f38.less (xx_skip (xx_skip xx_id))), by rw [hd.2]; exact (f42.less (xx_skip (xx_skip xx_id))), oW⟩

set_option maxRecDepth 20000 in
set_option maxHeartbeats 1000000 in
theorem eval_ok (la : List UInt8) (u1 : Value) (x : UInt8) (W : World) (h1 : Ps No (Seq kB la u1) W) (g1 : la.length ≤ 8388608) :
    CW Try.prog 14 #[u1, (eB x)] W (Rt (RIs (eB (evP la x)) W)) := by
  have oW : Only No W W := Only.refl _ _
  refine enter (al := [u1, (eB x)]) (k := 21) (l := [u1, (eB x), undef, undef, undef, undef, undef, undef, undef, undef, undef, undef, undef, undef, undef, undef, undef, undef, undef, undef, undef, undef, undef]) Try.func14 rfl Try.ntmps14 rfl rfl ?_
  refine wpIn_seq ?_
  refine plain ?_
  refine wpL.is (v := (eB 0)) rfl (d_assign (v := (eB 0)) rfl) ?_
  refine wpL.flat [u1, (eB x), undef, undef, (eB 0), undef, undef, undef, undef, undef, undef, undef, undef, undef, undef, undef, undef, undef, undef, undef, undef, undef, undef] (by kernel_rfl) ?_
  refine wpL.done ?_
  refine then_n ?_
  refine wpIn_seq ?_
  refine plain ?_
  refine wpL.is (v := (eB 0)) rfl (d_assign (v := (eB 0)) rfl) ?_
  refine wpL.flat [u1, (eB x), undef, undef, (eB 0), (eB 0), undef, undef, undef, undef, undef, undef, undef, undef, undef, undef, undef, undef, undef, undef, undef, undef, undef] (by kernel_rfl) ?_
  refine wpL.done ?_
  refine then_n ?_
  refine wpIn_seq ?_
  refine wpIn_seq ?_
  refine plain ?_
  refine wpL.is (v := u1) rfl (d_move (v := u1) rfl) ?_
  refine wpL.is (v := (eN la.length)) rfl (d_lenS rfl Try.underlying23 rfl h1) ?_
  refine wpL.is (v := (eI (((la.length : Nat) : Int) - 1))) rfl (d_sub (k := .i64) (m := ((la.length : Nat) : Int)) (n := 1) rfl rfl (r := ((la.length : Nat) : Int) - 1) (IntWalk.i64_in _ (by omega))) ?_
  refine wpL.flat [u1, (eB x), undef, undef, (eB 0), (eB 0), undef, u1, (eN la.length), (eI (((la.length : Nat) : Int) - 1)), undef, undef, undef, undef, undef, undef, undef, undef, undef, undef, undef, undef, undef] (by kernel_rfl) ?_
  refine wpL.is (v := (eI (((la.length : Nat) : Int) - 1))) rfl (d_assign (v := (eI (((la.length : Nat) : Int) - 1))) rfl) ?_
  refine wpL.flat [u1, (eB x), undef, undef, (eB 0), (eB 0), (eI (((la.length : Nat) : Int) - 1)), u1, (eN la.length), (eI (((la.length : Nat) : Int) - 1)), undef, undef, undef, undef, undef, undef, undef, undef, undef, undef, undef, undef, undef] (by kernel_rfl) ?_
  refine wpL.done ?_
  refine fr_eq (l' := [u1, (eB x), undef, undef, (eB 0), (eB (evP (la.drop la.length) x)), (eI (((la.length : Nat) : Int) - 1)), u1, (eN la.length), (eI (((la.length : Nat) : Int) - 1)), undef, undef, undef, undef, undef, undef, undef, undef, undef, undef, undef, undef, undef]) (show ([u1, (eB x), undef, undef, (eB 0), (eB 0), (eI (((la.length : Nat) : Int) - 1)), u1, (eN la.length), (eI (((la.length : Nat) : Int) - 1)), undef, undef, undef, undef, undef, undef, undef, undef, undef, undef, undef, undef, undef] : List Value) = [u1, (eB x), undef, undef, (eB 0), (eB (evP (la.drop la.length) x)), (eI (((la.length : Nat) : Int) - 1)), u1, (eN la.length), (eI (((la.length : Nat) : Int) - 1)), undef, undef, undef, undef, undef, undef, undef, undef, undef, undef, undef, undef, undef] from reslot [u1, (eB x), undef, undef, (eB 0), (eB 0), (eI (((la.length : Nat) : Int) - 1)), u1, (eN la.length), (eI (((la.length : Nat) : Int) - 1)), undef, undef, undef, undef, undef, undef, undef, undef, undef, undef, undef, undef, undef] 5 (by rw [List.drop_length]; rfl)) ?_
  refine then_n ?_
  refine wpIn_block ?_
  refine loop2 (fun (n : (Nat)) => fun (z : Nat → Value) => ([u1, (eB x), undef, undef, (eB 0), (eB (evP (la.drop n) x)), (eI (((n : Nat) : Int) - 1)), u1, (eN la.length), (eI (((la.length : Nat) : Int) - 1)), (z 10), (z 11), (z 12), (z 13), (z 14), (z 15), (z 16), (z 17), (z 18), (z 19), (z 20), (z 21), undef] : List Value)) (fun (n : (Nat)) => fun (w_ : World) => (n ≤ la.length) ∧ Only No W w_) (fun (n : (Nat)) => n) la.length rfl ?_ ?_
  · refine ⟨?_, ?_⟩
    · (try dsimp only)
      all_goals (exact Nat.le_refl _)
    · (try dsimp only)
      all_goals (exact Only.refl _ _)
  · rintro n z w2 ⟨hn, o1⟩
    (try dsimp only)
    replace h1 := h1.step o1 no_any
    replace oW := oW.tail o1 tl_no
    refine wpIn_seq ?_
    refine wpIn_seq ?_
    refine plain ?_
    refine wpL.is (v := (eI (((n : Nat) : Int) - 1))) rfl (d_move (v := (eI (((n : Nat) : Int) - 1))) rfl) ?_
    refine wpL.is (v := (Value.bool (decide (0 ≤ ((n : Nat) : Int) - 1)))) rfl (d_geq (k := .i64) (m := ((n : Nat) : Int) - 1) (n := 0) rfl rfl rfl) ?_
    refine wpL.flat [u1, (eB x), undef, undef, (eB 0), (eB (evP (la.drop n) x)), (eI (((n : Nat) : Int) - 1)), u1, (eN la.length), (eI (((la.length : Nat) : Int) - 1)), (eI (((n : Nat) : Int) - 1)), (Value.bool (decide (0 ≤ ((n : Nat) : Int) - 1))), (z 12), (z 13), (z 14), (z 15), (z 16), (z 17), (z 18), (z 19), (z 20), (z 21), undef] (by kernel_rfl) ?_
    refine wpL.done ?_
    refine then_n ?_
    refine cond_if rfl (fun c1 => ?_) (fun c1 => ?_)
    · skip
      obtain ⟨m, rfl⟩ : ∃ m, n = m + 1 := ⟨n - 1, by omega⟩
      refine wp_eq (l' := [u1, (eB x), undef, undef, (eB 0), (eB (evP (la.drop (m + 1)) x)), (eI ((((m + 1) : Nat) : Int) - 1)), u1, (eN la.length), (eI (((la.length : Nat) : Int) - 1)), (eI ((((m + 1) : Nat) : Int) - 1)), (Value.bool (decide (0 ≤ (((m + 1) : Nat) : Int) - 1))), (z 12), (z 13), (z 14), (z 15), (z 16), (z 17), (z 18), (z 19), (z 20), (z 21), undef]) rfl ?_
      refine wp_eq (l' := [u1, (eB x), undef, undef, (eB 0), (eB (evP (la.drop (m + 1)) x)), (eN m), u1, (eN la.length), (eI (((la.length : Nat) : Int) - 1)), (eN m), (Value.bool (decide (0 ≤ (((m + 1) : Nat) : Int) - 1))), (z 12), (z 13), (z 14), (z 15), (z 16), (z 17), (z 18), (z 19), (z 20), (z 21), undef]) (Eq.trans (show ([u1, (eB x), undef, undef, (eB 0), (eB (evP (la.drop (m + 1)) x)), (eI ((((m + 1) : Nat) : Int) - 1)), u1, (eN la.length), (eI (((la.length : Nat) : Int) - 1)), (eI ((((m + 1) : Nat) : Int) - 1)), (Value.bool (decide (0 ≤ (((m + 1) : Nat) : Int) - 1))), (z 12), (z 13), (z 14), (z 15), (z 16), (z 17), (z 18), (z 19), (z 20), (z 21), undef] : List Value) = [u1, (eB x), undef, undef, (eB 0), (eB (evP (la.drop (m + 1)) x)), (eN m), u1, (eN la.length), (eI (((la.length : Nat) : Int) - 1)), (eI ((((m + 1) : Nat) : Int) - 1)), (Value.bool (decide (0 ≤ (((m + 1) : Nat) : Int) - 1))), (z 12), (z 13), (z 14), (z 15), (z 16), (z 17), (z 18), (z 19), (z 20), (z 21), undef] from reslot [u1, (eB x), undef, undef, (eB 0), (eB (evP (la.drop (m + 1)) x)), (eI ((((m + 1) : Nat) : Int) - 1)), u1, (eN la.length), (eI (((la.length : Nat) : Int) - 1)), (eI ((((m + 1) : Nat) : Int) - 1)), (Value.bool (decide (0 ≤ (((m + 1) : Nat) : Int) - 1))), (z 12), (z 13), (z 14), (z 15), (z 16), (z 17), (z 18), (z 19), (z 20), (z 21), undef] 6 (congrArg eI (by omega))) (show ([u1, (eB x), undef, undef, (eB 0), (eB (evP (la.drop (m + 1)) x)), (eN m), u1, (eN la.length), (eI (((la.length : Nat) : Int) - 1)), (eI ((((m + 1) : Nat) : Int) - 1)), (Value.bool (decide (0 ≤ (((m + 1) : Nat) : Int) - 1))), (z 12), (z 13), (z 14), (z 15), (z 16), (z 17), (z 18), (z 19), (z 20), (z 21), undef] : List Value) = [u1, (eB x), undef, undef, (eB 0), (eB (evP (la.drop (m + 1)) x)), (eN m), u1, (eN la.length), (eI (((la.length : Nat) : Int) - 1)), (eN m), (Value.bool (decide (0 ≤ (((m + 1) : Nat) : Int) - 1))), (z 12), (z 13), (z 14), (z 15), (z 16), (z 17), (z 18), (z 19), (z 20), (z 21), undef] from reslot [u1, (eB x), undef, undef, (eB 0), (eB (evP (la.drop (m + 1)) x)), (eN m), u1, (eN la.length), (eI (((la.length : Nat) : Int) - 1)), (eI ((((m + 1) : Nat) : Int) - 1)), (Value.bool (decide (0 ≤ (((m + 1) : Nat) : Int) - 1))), (z 12), (z 13), (z 14), (z 15), (z 16), (z 17), (z 18), (z 19), (z 20), (z 21), undef] 10 (congrArg eI (by omega)))) ?_
      refine wpIn_skip ?_
      refine then_n ?_
      refine wpIn_seq ?_
      refine wpIn_block ?_
      refine drawn' (O := No) (n := 9) [0, 0, 3, 0, 0, 24, 56, 127, 255] [(0, 14), (1, 15), (2, 16), (3, 17), (4, 18), (5, 19), (6, 20), (7, 21), (8, 5)] [0, 1, 2, 3, 4, 5, 6, 7, 8] [] (fun i_ => ([RF.is No (eB (evP (la.drop (m + 1)) x)), RF.is No (eB x), RF.is No (eB (gm (evP (la.drop (m + 1)) x) x)), RF.is No u1, RF.is No (eN m), RF.ps No No (At kB (la.getD m 0)) no_any, RF.is No (eB (la.getD m 0)), RF.is No (eB ((gm (evP (la.drop (m + 1)) x) x) ^^^ (la.getD m 0))), RF.is No (eB ((gm (evP (la.drop (m + 1)) x) x) ^^^ (la.getD m 0)))] : List (RF No)).getD i_ (RF.any No)) (fun _ w_ => True) (fun v3 => [u1, (eB x), undef, undef, (eB 0), (v3 8), (eN m), u1, (eN la.length), (eI (((la.length : Nat) : Int) - 1)), (eN m), (Value.bool (decide (0 ≤ (((m + 1) : Nat) : Int) - 1))), (z 12), (z 13), (v3 0), (v3 1), (v3 2), (v3 3), (v3 4), (v3 5), (v3 6), (v3 7), undef]) s_mx (by kernel_rfl) rfl (by decide) (by rfl) (fun v_ => by kernel_rfl) (fun _ => fun _ _ _ _ => trivial) trivial ?_ ?_ ?_
      · skip
        refine ls_cons ?_ ?_
        · intro v3 lo hi w_ k_ hO hd _ _ hk_ _ hR hold
          have eo8 : v3 8 = (eB (evP (la.drop (m + 1)) x)) := hold (8, 5) (by decide) (by kernel_rfl)
          clear hd hold
          refine ⟨_, rfl, gd rfl ?_⟩
          exact Does.is (d_move (v := (eB (evP (la.drop (m + 1)) x))) eo8)
        refine ls_cons ?_ ?_
        · intro v3 lo hi w_ k_ hO hd _ _ hk_ _ hR hold
          clear hd hold
          refine ⟨_, rfl, gd rfl ?_⟩
          exact Does.is (d_move (v := (eB x)) rfl)
        refine ls_cons ?_ ?_
        · intro v3 lo hi w_ k_ hO hd _ _ hk_ _ hR hold
          have e0 : v3 0 = (eB (evP (la.drop (m + 1)) x)) := hd 0 (by kernel_rfl)
          have e1 : v3 1 = (eB x) := hd 1 (by kernel_rfl)
          clear hd hold
          refine ⟨_, rfl, gd rfl ?_⟩
          exact d_call (xl := [.tmp 14, .tmp 15]) (al := [(eB (evP (la.drop (m + 1)) x)), (eB x)]) Try.func28 (by kernel_rfl) rfl (show ([(v3 0), (v3 1)] : List Value) = [(eB (evP (la.drop (m + 1)) x)), (eB x)] from by rw [e0, e1]) rfl (gfMul_ok (evP (la.drop (m + 1)) x) x _)
        refine ls_cons ?_ ?_
        · intro v3 lo hi w_ k_ hO hd _ _ hk_ _ hR hold
          clear hd hold
          refine ⟨_, rfl, gd rfl ?_⟩
          exact Does.is (d_move (v := u1) rfl)
        refine ls_cons ?_ ?_
        · intro v3 lo hi w_ k_ hO hd _ _ hk_ _ hR hold
          clear hd hold
          refine ⟨_, rfl, gd rfl ?_⟩
          exact Does.is (d_move (v := (eN m)) rfl)
        refine ls_cons ?_ ?_
        · intro v3 lo hi w_ k_ hO hd _ _ hk_ _ hR hold
          have e3 : v3 3 = u1 := hd 3 (by kernel_rfl)
          have e4 : v3 4 = (eN m) := hd 4 (by kernel_rfl)
          clear hd hold
          refine ⟨_, rfl, gd rfl ?_⟩
          refine Does.mono (d_indexS (q := kB) (xs := la) (v := (la.getD m 0)) Try.underlying23 s_ti5 e3 (h1.step hO no_any) (show _ = Value.int _ ((m : Nat) : Int) from e4) (by omega) (g_at (by first | omega | (simp; done) | (simp; omega)))) (fun u w' h => ⟨h.2 ▸ h.1, h.2 ▸ Only.refl _ _⟩)
        refine ls_cons ?_ ?_
        · intro v3 lo hi w_ k_ hO hd _ _ hk_ _ hR hold
          have d5 : Ps No (At kB (la.getD m 0) (v3 5)) w_ := hd 5 (by kernel_rfl)
          clear hd hold
          refine ⟨_, rfl, gd rfl ?_⟩
          exact Does.is (d_loadAt (enc := eB) (v := (la.getD m 0)) ⟨_, Try.underlying5, rfl⟩ rfl d5)
        refine ls_cons ?_ ?_
        · intro v3 lo hi w_ k_ hO hd _ _ hk_ _ hR hold
          have e2 : v3 2 = (eB (gm (evP (la.drop (m + 1)) x) x)) := hd 2 (by kernel_rfl)
          have e6 : v3 6 = (eB (la.getD m 0)) := hd 6 (by kernel_rfl)
          clear hd hold
          refine ⟨_, rfl, gd rfl ?_⟩
          exact Does.is (b_xor (c := (gm (evP (la.drop (m + 1)) x) x)) (e := (la.getD m 0)) e2 e6)
        refine ls_cons ?_ ?_
        · intro v3 lo hi w_ k_ hO hd _ _ hk_ _ hR hold
          have e7 : v3 7 = (eB ((gm (evP (la.drop (m + 1)) x) x) ^^^ (la.getD m 0))) := hd 7 (by kernel_rfl)
          clear hd hold
          refine ⟨_, rfl, gd rfl ?_⟩
          exact Does.is (d_assign (v := (eB ((gm (evP (la.drop (m + 1)) x) x) ^^^ (la.getD m 0)))) e7)
        exact ls_nil
      · skip
        exact ms_nil
      intro v3 lo_ hi_ w4 o5 hd iv_ hR
      have e0 : v3 0 = (eB (evP (la.drop (m + 1)) x)) := hd 0 (by decide)
      have e1 : v3 1 = (eB x) := hd 1 (by decide)
      have e2 : v3 2 = (eB (gm (evP (la.drop (m + 1)) x) x)) := hd 2 (by decide)
      have e3 : v3 3 = u1 := hd 3 (by decide)
      have e4 : v3 4 = (eN m) := hd 4 (by decide)
      have e6 : v3 6 = (eB (la.getD m 0)) := hd 6 (by decide)
      have e7 : v3 7 = (eB ((gm (evP (la.drop (m + 1)) x) x) ^^^ (la.getD m 0))) := hd 7 (by decide)
      have e8 : v3 8 = (eB ((gm (evP (la.drop (m + 1)) x) x) ^^^ (la.getD m 0))) := hd 8 (by decide)
      have f_v3_5 : Ps No (At kB (la.getD m 0) (v3 5)) w4 := hd 5 (by decide)
      clear hd iv_ lo_ hi_
      refine fr_eq (l' := [u1, (eB x), undef, undef, (eB 0), (eB ((gm (evP (la.drop (m + 1)) x) x) ^^^ (la.getD m 0))), (eN m), u1, (eN la.length), (eI (((la.length : Nat) : Int) - 1)), (eN m), (Value.bool (decide (0 ≤ (((m + 1) : Nat) : Int) - 1))), (z 12), (z 13), (eB (evP (la.drop (m + 1)) x)), (eB x), (eB (gm (evP (la.drop (m + 1)) x) x)), u1, (eN m), (v3 5), (eB (la.getD m 0)), (eB ((gm (evP (la.drop (m + 1)) x) x) ^^^ (la.getD m 0))), undef]) (by rw [e0, e1, e2, e3, e4, e6, e7, e8]) ?_
      clear e0 e1 e2 e3 e4 e6 e7 e8
      replace h1 := h1.step o5 no_any
      clear hR
      replace oW := oW.tail o5 tl_no
      replace o1 := o1.tail o5 tl_no
      refine inb_n (then_n ?_)
      refine plain ?_
      refine wpL.is (v := (eN m)) rfl (d_move (v := (eN m)) rfl) ?_
      refine wpL.is (v := (eI (((m : Nat) : Int) - 1))) rfl (d_sub (k := .i64) (m := ((m : Nat) : Int)) (n := 1) rfl rfl (r := ((m : Nat) : Int) - 1) (IntWalk.i64_in _ (by omega))) ?_
      refine wpL.is (v := (eI (((m : Nat) : Int) - 1))) rfl (d_assign (v := (eI (((m : Nat) : Int) - 1))) rfl) ?_
      refine wpL.flat [u1, (eB x), undef, undef, (eB 0), (eB ((gm (evP (la.drop (m + 1)) x) x) ^^^ (la.getD m 0))), (eI (((m : Nat) : Int) - 1)), u1, (eN la.length), (eI (((la.length : Nat) : Int) - 1)), (eN m), (Value.bool (decide (0 ≤ (((m + 1) : Nat) : Int) - 1))), (eN m), (eI (((m : Nat) : Int) - 1)), (eB (evP (la.drop (m + 1)) x)), (eB x), (eB (gm (evP (la.drop (m + 1)) x) x)), u1, (eN m), (v3 5), (eB (la.getD m 0)), (eB ((gm (evP (la.drop (m + 1)) x) x) ^^^ (la.getD m 0))), undef] (by kernel_rfl) ?_
      refine wpL.done ?_
      refine then_n ?_
      refine ⟨[u1, (eB x), undef, undef, (eB 0), (eB (evP (la.drop m) x)), (eI (((m : Nat) : Int) - 1)), u1, (eN la.length), (eI (((la.length : Nat) : Int) - 1)), (eN m), (Value.bool (decide (0 ≤ (((m + 1) : Nat) : Int) - 1))), (eN m), (eI (((m : Nat) : Int) - 1)), (eB (evP (la.drop (m + 1)) x)), (eB x), (eB (gm (evP (la.drop (m + 1)) x) x)), u1, (eN m), (v3 5), (eB (la.getD m 0)), (eB ((gm (evP (la.drop (m + 1)) x) x) ^^^ (la.getD m 0))), undef], m, (congrArg (fun l_ => fr l_ _) (show ([u1, (eB x), undef, undef, (eB 0), (eB ((gm (evP (la.drop (m + 1)) x) x) ^^^ (la.getD m 0))), (eI (((m : Nat) : Int) - 1)), u1, (eN la.length), (eI (((la.length : Nat) : Int) - 1)), (eN m), (Value.bool (decide (0 ≤ (((m + 1) : Nat) : Int) - 1))), (eN m), (eI (((m : Nat) : Int) - 1)), (eB (evP (la.drop (m + 1)) x)), (eB x), (eB (gm (evP (la.drop (m + 1)) x) x)), u1, (eN m), (v3 5), (eB (la.getD m 0)), (eB ((gm (evP (la.drop (m + 1)) x) x) ^^^ (la.getD m 0))), undef] : List Value) = [u1, (eB x), undef, undef, (eB 0), (eB (evP (la.drop m) x)), (eI (((m : Nat) : Int) - 1)), u1, (eN la.length), (eI (((la.length : Nat) : Int) - 1)), (eN m), (Value.bool (decide (0 ≤ (((m + 1) : Nat) : Int) - 1))), (eN m), (eI (((m : Nat) : Int) - 1)), (eB (evP (la.drop (m + 1)) x)), (eB x), (eB (gm (evP (la.drop (m + 1)) x) x)), u1, (eN m), (v3 5), (eB (la.getD m 0)), (eB ((gm (evP (la.drop (m + 1)) x) x) ^^^ (la.getD m 0))), undef] from reslot [u1, (eB x), undef, undef, (eB 0), (eB ((gm (evP (la.drop (m + 1)) x) x) ^^^ (la.getD m 0))), (eI (((m : Nat) : Int) - 1)), u1, (eN la.length), (eI (((la.length : Nat) : Int) - 1)), (eN m), (Value.bool (decide (0 ≤ (((m + 1) : Nat) : Int) - 1))), (eN m), (eI (((m : Nat) : Int) - 1)), (eB (evP (la.drop (m + 1)) x)), (eB x), (eB (gm (evP (la.drop (m + 1)) x) x)), u1, (eN m), (v3 5), (eB (la.getD m 0)), (eB ((gm (evP (la.drop (m + 1)) x) x) ^^^ (la.getD m 0))), undef] 5 (congrArg eB (evP_step la x (by omega))))), rfl, ⟨?_, ?_⟩, ?_⟩
      · (try dsimp only)
        all_goals (omega)
      · (try dsimp only)
        all_goals (exact o1)
      · (try dsimp only)
        all_goals (omega)
    · skip
      refine wpIn_exit ?_
      refine then_x (then_x (inb_e ?_))
      refine then_n ?_
      refine wpIn_seq ?_
      refine plain ?_
      refine wpL.is (v := (eB (evP (la.drop n) x))) rfl (d_move (v := (eB (evP (la.drop n) x))) rfl) ?_
      refine wpL.is (v := (eB (evP (la.drop n) x))) rfl (d_assign (v := (eB (evP (la.drop n) x))) rfl) ?_
      refine wpL.flat [u1, (eB x), undef, undef, (eB (evP (la.drop n) x)), (eB (evP (la.drop n) x)), (eI (((n : Nat) : Int) - 1)), u1, (eN la.length), (eI (((la.length : Nat) : Int) - 1)), (eI (((n : Nat) : Int) - 1)), (Value.bool (decide (0 ≤ ((n : Nat) : Int) - 1))), (z 12), (z 13), (z 14), (z 15), (z 16), (z 17), (z 18), (z 19), (z 20), (z 21), (eB (evP (la.drop n) x))] (by kernel_rfl) ?_
      refine wpL.done ?_
      refine then_n ?_
      refine wpIn_ret ?_
      refine leave0 (v := (eB (evP (la.drop n) x))) (res1 Try.results14 rfl) ?_
      obtain rfl : n = 0 := by omega
      exact ⟨rfl, oW⟩

end Go.Proofs.YtphlhejccgbmfaaF
