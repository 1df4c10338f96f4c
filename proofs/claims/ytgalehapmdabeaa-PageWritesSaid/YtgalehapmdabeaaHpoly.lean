import Derived.Test.YtgalehapmdabeaaFz
import Derived.Test.YtgalehapmdabeaaTy
import Derived.Test.YtgalehapmdabeaaHgf
import Derived.Test.YtgalehapmdabeaaMq
set_option linter.unusedVariables false
set_option linter.unusedSimpArgs false
namespace Go.Proofs.YtgalehapmdabeaaF
open Go Go.Shelf Go.Proofs.YtgalehapmdabeaaS Ram

theorem tl_stay' {l : List UInt8} {n : Nat} (h : 0 < n) (h2 : ¬ l.getD (n - 1) 0 = 0) : tl l n = n := by
  cases n with
  | zero => omega
  | succ n => exact tl_stay h2
theorem tl_go' {l : List UInt8} {n : Nat} (h : 0 < n) (h2 : l.getD (n - 1) 0 = 0) : tl l n = tl l (n - 1) := by
  cases n with
  | zero => omega
  | succ n => exact tl_go h2
set_option maxRecDepth 20000 in
set_option maxHeartbeats 1000000 in
theorem trimmed_ok (la : List UInt8) (u1 : Value) (W : World) (h1 : Ps No (Seq kB la u1) W) (g1 : la.length ≤ 8388608) :
    CW Try.prog 108 #[(Value.agg #[u1])] W (Rt (ROw 5 eB (trimL la) W)) := by
 have oW : Only No W W := Only.refl _ _
 refine enter (al := [(Value.agg #[u1])]) (k := 26) (l := ([(Value.agg #[u1])] ++ (us 26))) Try.func108 rfl Try.ntmps108 rfl rfl ?_
 refine wpIn_seq ?_
 refine plain ?_
 refine wO (d_box rfl rfl) ?_
 rintro _ w12 ⟨b11, rfl, g13, a14, o15⟩
 have g_oW_b11 : W.heap.size ≤ b11 := Nat.le_trans oW.size g13
 replace h1 := h1.new o15 g13
 replace oW := oW.tail0 o15
 refine wI (d_assign rfl) ?_
 refine wF ([(Value.agg #[u1]), (ptr b11 0), (Value.slice none 0 0)] ++ (us 24)) ?_
 refine wpL.done ?_
 refine then_n ?_
 refine wpIn_seq ?_
 refine plain ?_
 refine wI (d_assign rfl) ?_
 refine wF ([(Value.agg #[u1]), (ptr b11 0), (Value.slice none 0 0), (eB 0)] ++ (us 23)) ?_
 refine wpL.done ?_
 refine then_n ?_
 refine wpIn_seq ?_
 refine plain ?_
 refine wI (d_fieldAddr (j := 0) Try.underlying141 rfl s_ti22 (by decide) rfl rfl) ?_
 refine wI (d_load (v := u1) ⟨_, Try.underlying22, rfl⟩ rfl a14 rfl) ?_
 refine wI (d_lenS rfl Try.underlying22 rfl h1) ?_
 refine wF ([(Value.agg #[u1]), (ptr b11 0), (Value.slice none 0 0), (eB 0), undef, (ptr b11 0), u1, (eN la.length)] ++ (us 19)) ?_
 refine wI (d_assign rfl) ?_
 refine wF ([(Value.agg #[u1]), (ptr b11 0), (Value.slice none 0 0), (eB 0), (eN la.length), (ptr b11 0), u1, (eN la.length)] ++ (us 19)) ?_
 refine wpL.done ?_
 refine then_n ?_
 refine wpIn_seq ?_
 refine wpIn_block ?_
 refine loop2 (fun (n : (Nat)) => fun (z : Nat → Value) => (([(Value.agg #[u1]), (ptr b11 0), (Value.slice none 0 0), (eB 0), (eN n), (ptr b11 0), u1, (eN la.length)] ++ (zs z 8 14 ++ (us 5))) : List Value)) (fun (n : (Nat)) => fun (w_ : World) => (n ≤ la.length) ∧ (tl la n = tlen la) ∧ Only (Or1 b11 No) w12 w_ ∧ Arr 141 b11 [u1] w_) (fun (n : (Nat)) => n) la.length rfl ?_ ?_
 ·
  refine ⟨?_, ?_, ?_, ?_⟩
  ·
   exact Nat.le_refl _
  ·
   exact rfl
  ·
   exact Only.refl _ _
  ·
   exact a14
 rintro n z w17 ⟨hn, hI, o16, a14⟩
 (try dsimp only)
 replace h1 := h1.step o16 (or1_mono no_any)
 replace oW := oW.tail o16 (tl_new g_oW_b11 tl_no)
 refine wpIn_seq ?_
 refine wpIn_seq ?_
 by_cases n0 : 0 < n
 ·
  refine plain ?_
  refine wI (d_move rfl) ?_
  refine wI (n_gtr (a := n) (b := 0) rfl rfl (decide_eq_true n0)) ?_
  refine wI (d_move rfl) ?_
  refine wF ([(Value.agg #[u1]), (ptr b11 0), (Value.slice none 0 0), (eB 0), (eN n), (ptr b11 0), u1, (eN la.length), (eN n), (Value.bool true), (Value.bool true)] ++ (zs z 11 11 ++ (us 5))) ?_
  refine wpL.onis rfl rfl rfl (nb rfl) rfl (d_fieldAddr (j := 0) Try.underlying141 rfl s_ti22 (by decide) rfl rfl) ?_
  refine wpL.onis rfl rfl rfl (nb rfl) rfl (d_load (v := u1) ⟨_, Try.underlying22, rfl⟩ rfl a14 rfl) ?_
  refine wpL.onis rfl rfl rfl (nb rfl) rfl (d_move rfl) ?_
  refine wF ([(Value.agg #[u1]), (ptr b11 0), (Value.slice none 0 0), (eB 0), (eN n), (ptr b11 0), u1, (eN la.length), (eN n), (Value.bool true), (Value.bool true), (ptr b11 0), u1, (eN n)] ++ (zs z 14 8 ++ (us 5))) ?_
  refine wpL.onis rfl rfl rfl (nb rfl) rfl (n_sub (a := n) (b := 1) rfl rfl (by omega) (by omega)) ?_
  refine wpL.onis rfl rfl rfl (nb rfl) rfl (d_ix (i := (n - 1)) (xs := la) Try.underlying22 s_ti5 rfl h1 (show _ = Value.int _ ((n - 1 : Nat) : Int) from rfl) (by first | omega | (simp; done) | (simp; omega))) ?_
  refine wpL.onis rfl rfl rfl (nb rfl) rfl (d_ldx (i := (n - 1)) (xs := la) (enc := eB) (v := (la.getD (n - 1) 0)) ⟨_, Try.underlying5, rfl⟩ rfl h1 (g_at (by first | omega | (simp; done) | (simp; omega)))) ?_
  refine wF ([(Value.agg #[u1]), (ptr b11 0), (Value.slice none 0 0), (eB 0), (eN n), (ptr b11 0), u1, (eN la.length), (eN n), (Value.bool true), (Value.bool true), (ptr b11 0), u1, (eN n), (eN (n - 1)), (ixp u1 (n - 1)), (eB (la.getD (n - 1) 0))] ++ (zs z 17 5 ++ (us 5))) ?_
  refine wpL.onis rfl rfl rfl (nb rfl) rfl (d_move rfl) ?_
  refine wpL.onis rfl rfl rfl (nb rfl) rfl (b_eql (c := (la.getD (n - 1) 0)) (e := 0) rfl rfl rfl) ?_
  refine wI (d_pick (b := true) (v := (Value.bool (decide (((la.getD (n - 1) 0) : UInt8) = (0 : UInt8))))) rfl rfl) ?_
  refine wF ([(Value.agg #[u1]), (ptr b11 0), (Value.slice none 0 0), (eB 0), (eN n), (ptr b11 0), u1, (eN la.length), (eN n), (Value.bool true), (Value.bool true), (ptr b11 0), u1, (eN n), (eN (n - 1)), (ixp u1 (n - 1)), (eB (la.getD (n - 1) 0)), (eB 0), (Value.bool (decide (((la.getD (n - 1) 0) : UInt8) = (0 : UInt8)))), (Value.bool (decide (((la.getD (n - 1) 0) : UInt8) = (0 : UInt8)))), (z 20), (z 21)] ++ (us 5)) ?_
  refine wpL.done ?_
  refine then_n ?_
  refine forget (fun zf18 => ([(Value.agg #[u1]), (ptr b11 0), (Value.slice none 0 0), (eB 0), (eN n), (ptr b11 0), u1, (eN la.length)] ++ (zs zf18 8 11 ++ [(Value.bool (decide (((la.getD (n - 1) 0) : UInt8) = (0 : UInt8)))), (zf18 20), (zf18 21)] ++ (us 5)))) (by kernel_rfl) (fun zf18 => ?_)
  refine cond_if rfl (fun k1 => ?_) (fun k1 => ?_)
  ·
   refine wpIn_skip ?_
   refine then_n ?_
   refine wpIn_block ?_
   refine plain ?_
   refine wI (d_move rfl) ?_
   refine wI (n_sub (a := n) (b := 1) rfl rfl (by omega) (by omega)) ?_
   refine wI (d_assign rfl) ?_
   refine wF ([(Value.agg #[u1]), (ptr b11 0), (Value.slice none 0 0), (eB 0), (eN (n - 1)), (ptr b11 0), u1, (eN la.length)] ++ (zs zf18 8 11 ++ [(Value.bool (decide (((la.getD (n - 1) 0) : UInt8) = (0 : UInt8)))), (eN n), (eN (n - 1))] ++ (us 5))) ?_
   refine wpL.done ?_
   refine inb_n (then_n ?_)
   refine ⟨_, (n - 1), rfl, rfl, ⟨?_, ?_, ?_, ?_⟩, ?_⟩
   ·
    (try dsimp only)
    all_goals (omega)
   ·
    (try dsimp only)
    all_goals (rw [← hI, tl_go' n0 k1])
   ·
    exact o16
   ·
    exact a14
   ·
    (try dsimp only)
    all_goals (omega)
  refine wpIn_exit ?_
  refine then_x (then_x (inb_e ?_))
  refine then_n ?_
  refine wpIn_seq ?_
  refine plain ?_
  refine wI (d_fieldAddr (j := 0) Try.underlying141 rfl s_ti22 (by decide) rfl rfl) ?_
  refine wI (d_load (v := u1) ⟨_, Try.underlying22, rfl⟩ rfl a14 rfl) ?_
  refine wI (d_move rfl) ?_
  refine wF ([(Value.agg #[u1]), (ptr b11 0), (Value.slice none 0 0), (eB 0), (eN n), (ptr b11 0), u1, (eN la.length)] ++ (zs zf18 8 11 ++ [(Value.bool (decide (((la.getD (n - 1) 0) : UInt8) = (0 : UInt8)))), (zf18 20), (zf18 21), (ptr b11 0), u1, (eN n), undef, undef])) ?_
  refine wO (d_sliceS (xs := la) (ys := (la.take n)) (l := 0) (h := n) Try.underlying22 s_ti5 rfl h1 Bd.none (Bd.some (l := n) (k := .i64) rfl) (by omega) (by omega) (by simp)) ?_
  rintro u19 _ ⟨f20, rfl⟩
  refine wO (d_append Try.underlying22 Try.underlying22 s_ti5 rfl rfl rfl (Ow.nil 5 1 _) (SrcV.of_seq f20 (fun _ => rfl)) (by rw [List.length_take]; omega) (by rw [List.length_take]; omega) rfl) ?_
  rintro u21 w22 ⟨bo23, a24, o25, q26⟩
  replace h1 := h1.qnone
  replace f20 := f20.qnone
  have nq_row27_b11 : ∀ x, (none : Option Nat) = some x → ¬ x = b11 := fun x e => by cases e
  have q_oW_row27 : Fr none none W.heap.size := Fr.none
  have q_o16_row27 : Fr none none w12.heap.size := Fr.none
  replace a24 : Ow 5 1 bo23 u21 (la.take n).length ((la.take n).map eB) w22 := by simpa using a24
  replace h1 := h1.gr o25 (fun k e => (.inl e)) (xx_re (Fr.of_or q26) (xx_or1 xx_id))
  replace f20 := f20.gr o25 (fun k e => (.inl e)) (xx_re (Fr.of_or q26) (xx_or1 xx_id))
  have nq2 := nqs nq_row27_b11 (Fr.of_or q26) a14.lt
  replace a14 := a14.step o25 (fun e => nq_row27_b11 _ e rfl)
  replace nq_row27_b11 := nq2
  clear nq2
  have tq := oW.size
  replace oW := oW.tailr o25 q_oW_row27 (fun _ e => by cases e)
  replace q_oW_row27 := qtr (Fr.of_or q26) q_oW_row27 tq
  clear tq
  have tq := o16.size
  replace o16 := o16.tailr o25 q_o16_row27 (fun _ e => by cases e)
  replace q_o16_row27 := qtr (Fr.of_or q26) q_o16_row27 tq
  clear tq
  refine wI (d_assign rfl) ?_
  refine wF ([(Value.agg #[u1]), (ptr b11 0), u21, (eB 0), (eN n), (ptr b11 0), u1, (eN la.length)] ++ (zs zf18 8 11 ++ [(Value.bool (decide (((la.getD (n - 1) 0) : UInt8) = (0 : UInt8)))), (zf18 20), (zf18 21), (ptr b11 0), u1, (eN n), u19, u21])) ?_
  refine wpL.done ?_
  refine then_n ?_
  refine forget (fun zf28 => ([(zf28 0), (zf28 1), u21, (zf28 3), (eN n)] ++ (zs zf28 5 22))) (by kernel_rfl) (fun zf28 => ?_)
  refine wpIn_ret ?_
  refine leave0 (v := u21) (res1 Try.results108 rfl) ?_
  rw [tl_stay' n0 k1] at hI
  exact ROw.mk_ a24 (by rw [hI]; rfl) q_oW_row27 oW
 refine plain ?_
 refine wI (d_move rfl) ?_
 refine wI (n_gtr (a := n) (b := 0) rfl rfl (decide_eq_false n0)) ?_
 refine wI (d_move rfl) ?_
 refine wF ([(Value.agg #[u1]), (ptr b11 0), (Value.slice none 0 0), (eB 0), (eN n), (ptr b11 0), u1, (eN la.length), (eN n), (Value.bool false), (Value.bool false)] ++ (zs z 11 11 ++ (us 5))) ?_
 refine wpL.off rfl rfl rfl (nb rfl) rfl ?_
 refine wpL.off rfl rfl rfl (nb rfl) rfl ?_
 refine wF ([(Value.agg #[u1]), (ptr b11 0), (Value.slice none 0 0), (eB 0), (eN n), (ptr b11 0), u1, (eN la.length), (eN n), (Value.bool false), (Value.bool false), undef, undef] ++ (zs z 13 9 ++ (us 5))) ?_
 refine wpL.off rfl rfl rfl (nb rfl) rfl ?_
 refine wpL.off rfl rfl rfl (nb rfl) rfl ?_
 refine wpL.off rfl rfl rfl (nb rfl) rfl ?_
 refine wF ([(Value.agg #[u1]), (ptr b11 0), (Value.slice none 0 0), (eB 0), (eN n), (ptr b11 0), u1, (eN la.length), (eN n), (Value.bool false), (Value.bool false)] ++ (us 5 ++ (zs z 16 6 ++ (us 5)))) ?_
 refine wpL.off rfl rfl rfl (nb rfl) rfl ?_
 refine wpL.off rfl rfl rfl (nb rfl) rfl ?_
 refine wpL.off rfl rfl rfl (nb rfl) rfl ?_
 refine wI (d_pick (b := false) (v := (Value.bool false)) rfl rfl) ?_
 refine wF ([(Value.agg #[u1]), (ptr b11 0), (Value.slice none 0 0), (eB 0), (eN n), (ptr b11 0), u1, (eN la.length), (eN n), (Value.bool false), (Value.bool false)] ++ (us 8 ++ [(Value.bool false), (z 20), (z 21)] ++ (us 5))) ?_
 refine wpL.done ?_
 refine then_n ?_
 refine cond_f rfl ?_
 refine wpIn_exit ?_
 refine then_x (then_x (inb_e ?_))
 refine then_n ?_
 refine forget (fun zf29 => ([(zf29 0), (ptr b11 0), (zf29 2), (zf29 3), (eN n)] ++ (zs zf29 5 22))) (by kernel_rfl) (fun zf29 => ?_)
 refine wpIn_seq ?_
 refine plain ?_
 refine wI (d_fieldAddr (j := 0) Try.underlying141 rfl s_ti22 (by decide) rfl rfl) ?_
 refine wI (d_load (v := u1) ⟨_, Try.underlying22, rfl⟩ rfl a14 rfl) ?_
 refine wI (d_move rfl) ?_
 refine wF ([(zf29 0), (ptr b11 0), (zf29 2), (zf29 3), (eN n)] ++ (zs zf29 5 17 ++ [(ptr b11 0), u1, (eN n), (zf29 25), (zf29 26)])) ?_
 refine wO (d_sliceS (xs := la) (ys := (la.take n)) (l := 0) (h := n) Try.underlying22 s_ti5 rfl h1 Bd.none (Bd.some (l := n) (k := .i64) rfl) (by omega) (by omega) (by simp)) ?_
 rintro u30 _ ⟨f31, rfl⟩
 refine wO (d_append Try.underlying22 Try.underlying22 s_ti5 rfl rfl rfl (Ow.nil 5 1 _) (SrcV.of_seq f31 (fun _ => rfl)) (by rw [List.length_take]; omega) (by rw [List.length_take]; omega) rfl) ?_
 rintro u32 w33 ⟨bo34, a35, o36, q37⟩
 replace h1 := h1.qnone
 replace f31 := f31.qnone
 have nq_row38_b11 : ∀ x, (none : Option Nat) = some x → ¬ x = b11 := fun x e => by cases e
 have q_oW_row38 : Fr none none W.heap.size := Fr.none
 have q_o16_row38 : Fr none none w12.heap.size := Fr.none
 replace a35 : Ow 5 1 bo34 u32 (la.take n).length ((la.take n).map eB) w33 := by simpa using a35
 replace h1 := h1.gr o36 (fun k e => (.inl e)) (xx_re (Fr.of_or q37) (xx_or1 xx_id))
 replace f31 := f31.gr o36 (fun k e => (.inl e)) (xx_re (Fr.of_or q37) (xx_or1 xx_id))
 have nq2 := nqs nq_row38_b11 (Fr.of_or q37) a14.lt
 replace a14 := a14.step o36 (fun e => nq_row38_b11 _ e rfl)
 replace nq_row38_b11 := nq2
 clear nq2
 have tq := oW.size
 replace oW := oW.tailr o36 q_oW_row38 (fun _ e => by cases e)
 replace q_oW_row38 := qtr (Fr.of_or q37) q_oW_row38 tq
 clear tq
 have tq := o16.size
 replace o16 := o16.tailr o36 q_o16_row38 (fun _ e => by cases e)
 replace q_o16_row38 := qtr (Fr.of_or q37) q_o16_row38 tq
 clear tq
 refine wI (d_assign rfl) ?_
 refine wF ([(zf29 0), (ptr b11 0), u32, (zf29 3), (eN n)] ++ (zs zf29 5 17 ++ [(ptr b11 0), u1, (eN n), u30, u32])) ?_
 refine wpL.done ?_
 refine then_n ?_
 refine wpIn_ret ?_
 refine leave0 (v := u32) (res1 Try.results108 rfl) ?_
 obtain rfl : n = 0 := by omega
 rw [show tl la 0 = 0 from rfl] at hI
 exact ROw.mk_ a35 (by rw [hI]; rfl) q_oW_row38 oW

set_option maxRecDepth 20000 in
set_option maxHeartbeats 1000000 in
theorem trim_ok (la : List UInt8) (u1 : Value) (W : World) (h1 : Ps No (Seq kB la u1) W) (g1 : la.length ≤ 8388608) :
    CW Try.prog 88 #[u1] W (Rt (ROw 5 eB (trimL la) W)) := by
 have oW : Only No W W := Only.refl _ _
 refine enter (al := [u1]) (k := 5) (l := ([u1] ++ (us 5))) Try.func88 rfl Try.ntmps88 rfl rfl ?_
 refine wpIn_seq ?_
 refine plain ?_
 refine wI (d_assign rfl) ?_
 refine wF [u1, undef, (Value.slice none 0 0), undef, undef, undef] ?_
 refine wpL.done ?_
 refine then_n ?_
 refine wpIn_seq ?_
 refine plain ?_
 refine wI (d_move rfl) ?_
 refine wI (d_buildS (pl := [(0, 1)]) (zs := [(Value.slice none 0 0)]) (cs := [u1]) Try.underlying141 s_ti141 ⟨_, _, _, _, rfl, s_ti22, rfl⟩ rfl (parts_cons (vs := [u1]) (cells_of (v := u1) rfl (Seq.cells h1)) parts_nil) rfl) ?_
 refine wO (d_call (xl := [.tmp 4]) (al := [(Value.agg #[u1])]) Try.func108 (by kernel_rfl) rfl rfl rfl (trimmed_ok la u1 _ (Ps.no h1) (by first | omega | (simp; done) | (simp; omega)))) ?_
 rintro u13 w11 f14
 obtain ⟨bo15, f14, g16, o12⟩ := f14
 have q_oW_r := qnew g16 oW.size
 replace h1 := h1.newq o12 g16
 replace oW := oW.tail0 o12
 refine wF [u1, undef, (Value.slice none 0 0), u1, (Value.agg #[u1]), u13] ?_
 refine wI (d_assign rfl) ?_
 refine wF [u1, undef, u13, u1, (Value.agg #[u1]), u13] ?_
 refine wpL.done ?_
 refine then_n ?_
 refine wpIn_ret ?_
 refine leave0 (v := u13) (res1 Try.results88 rfl) ?_
 exact ROw.mk_ f14 rfl q_oW_r oW

set_option maxRecDepth 20000 in
set_option maxHeartbeats 1000000 in
theorem mul_ok (la lb : List UInt8) (u1 u2 : Value) (W : World) (h1 : Ps No (Seq kB la u1) W) (h2 : Ps No (Seq kB lb u2) W) (g1 : la.length ≤ 1048576) (g2 : lb.length ≤ 1048576) :
    CW Try.prog 92 #[u1, u2] W (Rt (ROw 5 eB (mulP la lb) W)) := by
 have oW : Only No W W := Only.refl _ _
 refine enter (al := [u1, u2]) (k := 43) (l := ([u1, u2] ++ (us 43))) Try.func92 rfl Try.ntmps92 rfl rfl ?_
 refine wpIn_seq ?_
 refine plain ?_
 refine wI (d_assign rfl) ?_
 refine wF ([u1, u2, undef, undef, (Value.slice none 0 0)] ++ (us 40)) ?_
 refine wpL.done ?_
 refine then_n ?_
 refine wpIn_seq ?_
 refine plain ?_
 refine wI (d_move rfl) ?_
 refine wI (d_lenS rfl Try.underlying22 rfl h1) ?_
 refine wI (d_move rfl) ?_
 refine wF ([u1, u2, undef, undef, (Value.slice none 0 0)] ++ (us 5 ++ [u1, (eN la.length), u2] ++ (us 32))) ?_
 refine wI (d_lenS rfl Try.underlying22 rfl h2) ?_
 refine wI (n_add (a := la.length) (b := lb.length) rfl rfl (by omega)) ?_
 refine wO (d_make1 (n := la.length + lb.length) Try.underlying22 s_ti5 rfl rfl (by omega) (by omega) rfl) ?_
 rintro _ w11 ⟨b, rfl, g12, a13, o14⟩
 replace a13 : Arr 5 b ((List.replicate (la.length + lb.length) 0).map eB) w11 := by rw [List.map_replicate]; exact a13
 have l_b : (List.replicate (la.length + lb.length) 0 : List UInt8).length = la.length + lb.length := by simp
 have g_oW_b : W.heap.size ≤ b := Nat.le_trans oW.size g12
 replace h1 := h1.new o14 g12
 replace h2 := h2.new o14 g12
 replace oW := oW.tail0 o14
 refine wF ([u1, u2, undef, undef, (Value.slice none 0 0)] ++ (us 5 ++ [u1, (eN la.length), u2, (eN lb.length), (eN (la.length + lb.length)), (sli b 0 (la.length + lb.length) (la.length + lb.length))] ++ (us 29))) ?_
 refine wI (d_assign rfl) ?_
 refine wF ([u1, u2, undef, undef, (Value.slice none 0 0), (sli b 0 (la.length + lb.length) (la.length + lb.length)), undef, undef, undef, undef, u1, (eN la.length), u2, (eN lb.length), (eN (la.length + lb.length)), (sli b 0 (la.length + lb.length) (la.length + lb.length))] ++ (us 29)) ?_
 refine wpL.done ?_
 refine then_n ?_
 refine wpIn_seq ?_
 refine wpIn_seq ?_
 refine plain ?_
 refine wI (d_move rfl) ?_
 refine wI (d_lenS rfl Try.underlying22 rfl h1) ?_
 refine wI (d_move rfl) ?_
 refine wF ([u1, u2, undef, undef, (Value.slice none 0 0), (sli b 0 (la.length + lb.length) (la.length + lb.length)), undef, undef, undef, undef, u1, (eN la.length), u2, (eN lb.length), (eN (la.length + lb.length)), (sli b 0 (la.length + lb.length) (la.length + lb.length)), u1, (eN la.length), (eN 0)] ++ (us 26)) ?_
 refine wpL.done ?_
 refine then_n ?_
 refine forget (fun zf15 => ([(zf15 0), u2, (zf15 2), (zf15 3), (zf15 4), (sli b 0 (la.length + lb.length) (la.length + lb.length))] ++ (zs zf15 6 10 ++ [u1, (eN la.length), (eN 0)] ++ (zs zf15 19 6 ++ [undef, (zf15 26), (zf15 27), (zf15 28), (zf15 29)] ++ (us 11 ++ [(zf15 41), (zf15 42), (zf15 43), (zf15 44)]))))) (by kernel_rfl) (fun zf15 => ?_)
 refine wpIn_block ?_
 refine loop2 (fun (i : (Nat)) => fun (z : Nat → Value) => (([(zf15 0), u2, (zf15 2), (zf15 3), (zf15 4), (sli b 0 (la.length + lb.length) (la.length + lb.length)), (z 6), (z 7), (z 8), (z 9)] ++ (zs zf15 10 6 ++ [u1, (eN la.length), (eN i)] ++ (zs z 19 24 ++ [(zf15 43), (zf15 44)]))) : List Value)) (fun (i : (Nat)) => fun (w_ : World) => (i ≤ la.length) ∧ Only (Or1 b No) w11 w_ ∧ (pmul la lb i 0).length = la.length + lb.length ∧ Arr 5 b ((pmul la lb i 0).map eB) w_) (fun (i : (Nat)) => la.length - i) 0 rfl ?_ ?_
 ·
  refine ⟨?_, ?_, ?_, ?_⟩
  ·
   exact Nat.zero_le _
  ·
   exact Only.refl _ _
  ·
   exact pmul_length la lb 0 0
  ·
   (try dsimp only)
   all_goals (rw [← pmul_zero]; exact a13)
 rintro i z w17 ⟨hi, o16, l_b, a13⟩
 (try dsimp only)
 replace h1 := h1.step o16 (or1_mono no_any)
 replace h2 := h2.step o16 (or1_mono no_any)
 replace oW := oW.tail o16 (tl_new g_oW_b tl_no)
 refine wpIn_seq ?_
 refine plain ?_
 refine wI (n_lss (a := i) (b := la.length) rfl rfl rfl) ?_
 refine wF ([(zf15 0), u2, (zf15 2), (zf15 3), (zf15 4), (sli b 0 (la.length + lb.length) (la.length + lb.length)), (z 6), (z 7), (z 8), (z 9)] ++ (zs zf15 10 6 ++ [u1, (eN la.length), (eN i), (Value.bool (decide (i < la.length)))] ++ (zs z 20 23 ++ [(zf15 43), (zf15 44)]))) ?_
 refine wpL.done ?_
 refine then_n ?_
 refine wpIn_seq ?_
 refine cond_if rfl (fun c18 => ?_) (fun c18 => ?_)
 ·
  refine wpIn_skip ?_
  refine then_n ?_
  refine wpIn_seq ?_
  refine wpIn_block ?_
  refine wpIn_seq ?_
  refine plain ?_
  refine wI (d_move rfl) ?_
  refine wI (d_ix (i := i) (xs := la) Try.underlying22 s_ti5 rfl h1 (show _ = Value.int _ ((i : Nat) : Int) from rfl) (by first | omega | (simp; done) | (simp; omega))) ?_
  refine wI (d_ldx (i := i) (xs := la) (enc := eB) (v := (la.getD i 0)) ⟨_, Try.underlying5, rfl⟩ rfl h1 (g_at (by first | omega | (simp; done) | (simp; omega)))) ?_
  refine wF ([(zf15 0), u2, (zf15 2), (zf15 3), (zf15 4), (sli b 0 (la.length + lb.length) (la.length + lb.length)), (z 6), (z 7), (z 8), (z 9)] ++ (zs zf15 10 6 ++ [u1, (eN la.length), (eN i), (Value.bool (decide (i < la.length))), (eN i), (ixp u1 i), (eB (la.getD i 0))] ++ (zs z 23 20 ++ [(zf15 43), (zf15 44)]))) ?_
  refine wI (d_assign rfl) ?_
  refine wI (d_assign rfl) ?_
  refine wF ([(zf15 0), u2, (zf15 2), (zf15 3), (zf15 4), (sli b 0 (la.length + lb.length) (la.length + lb.length)), (eN i), (eB (la.getD i 0)), (z 8), (z 9)] ++ (zs zf15 10 6 ++ [u1, (eN la.length), (eN i), (Value.bool (decide (i < la.length))), (eN i), (ixp u1 i), (eB (la.getD i 0))] ++ (zs z 23 20 ++ [(zf15 43), (zf15 44)]))) ?_
  refine wpL.done ?_
  refine then_n ?_
  refine wpIn_seq ?_
  refine plain ?_
  refine wI (d_move rfl) ?_
  refine wI (d_lenS rfl Try.underlying22 rfl h2) ?_
  refine wI (d_move rfl) ?_
  refine wF ([(zf15 0), u2, (zf15 2), (zf15 3), (zf15 4), (sli b 0 (la.length + lb.length) (la.length + lb.length)), (eN i), (eB (la.getD i 0)), (z 8), (z 9)] ++ (zs zf15 10 6 ++ [u1, (eN la.length), (eN i), (Value.bool (decide (i < la.length))), (eN i), (ixp u1 i), (eB (la.getD i 0)), u2, (eN lb.length), (eN 0)] ++ (zs z 26 17 ++ [(zf15 43), (zf15 44)]))) ?_
  refine wpL.done ?_
  refine then_n ?_
  refine wpIn_block ?_
  refine loop2 (fun (k : (Nat)) => fun (z : Nat → Value) => (([(zf15 0), u2, (zf15 2), (zf15 3), (zf15 4), (sli b 0 (la.length + lb.length) (la.length + lb.length)), (eN i), (eB (la.getD i 0)), (z 8), (z 9)] ++ (zs zf15 10 6 ++ [u1, (eN la.length), (eN i), (Value.bool (decide (i < la.length))), (eN i), (ixp u1 i), (eB (la.getD i 0)), u2, (eN lb.length), (eN k)] ++ (zs z 26 17 ++ [(zf15 43), (zf15 44)]))) : List Value)) (fun (k : (Nat)) => fun (w_ : World) => (k ≤ lb.length) ∧ Only (Or1 b No) w17 w_ ∧ (pmul la lb i k).length = la.length + lb.length ∧ Arr 5 b ((pmul la lb i k).map eB) w_) (fun (k : (Nat)) => lb.length - k) 0 rfl ?_ ?_
  ·
   refine ⟨?_, ?_, ?_, ?_⟩
   ·
    exact Nat.zero_le _
   ·
    exact Only.refl _ _
   ·
    exact l_b
   ·
    exact a13
  rintro k z w20 ⟨hk, o19, l_b, a13⟩
  (try dsimp only)
  replace h1 := h1.step o19 (or1_mono no_any)
  replace h2 := h2.step o19 (or1_mono no_any)
  replace oW := oW.tail o19 (tl_new g_oW_b tl_no)
  replace o16 := o16.tail o19 (tl_in in1 tl_no)
  refine wpIn_seq ?_
  refine plain ?_
  refine wI (n_lss (a := k) (b := lb.length) rfl rfl rfl) ?_
  refine wF ([(zf15 0), u2, (zf15 2), (zf15 3), (zf15 4), (sli b 0 (la.length + lb.length) (la.length + lb.length)), (eN i), (eB (la.getD i 0)), (z 8), (z 9)] ++ (zs zf15 10 6 ++ [u1, (eN la.length), (eN i), (Value.bool (decide (i < la.length))), (eN i), (ixp u1 i), (eB (la.getD i 0)), u2, (eN lb.length), (eN k), (Value.bool (decide (k < lb.length)))] ++ (zs z 27 16 ++ [(zf15 43), (zf15 44)]))) ?_
  refine wpL.done ?_
  refine then_n ?_
  refine wpIn_seq ?_
  refine cond_if rfl (fun c21 => ?_) (fun c21 => ?_)
  ·
   refine wpIn_skip ?_
   refine then_n ?_
   refine wpIn_seq ?_
   refine wpIn_block ?_
   refine wpIn_seq ?_
   refine plain ?_
   refine wI (d_move rfl) ?_
   refine wI (d_ix (i := k) (xs := lb) Try.underlying22 s_ti5 rfl h2 (show _ = Value.int _ ((k : Nat) : Int) from rfl) (by first | omega | (simp; done) | (simp; omega))) ?_
   refine wI (d_ldx (i := k) (xs := lb) (enc := eB) (v := (lb.getD k 0)) ⟨_, Try.underlying5, rfl⟩ rfl h2 (g_at (by first | omega | (simp; done) | (simp; omega)))) ?_
   refine wF ([(zf15 0), u2, (zf15 2), (zf15 3), (zf15 4), (sli b 0 (la.length + lb.length) (la.length + lb.length)), (eN i), (eB (la.getD i 0)), (z 8), (z 9)] ++ (zs zf15 10 6 ++ [u1, (eN la.length), (eN i), (Value.bool (decide (i < la.length))), (eN i), (ixp u1 i), (eB (la.getD i 0)), u2, (eN lb.length), (eN k), (Value.bool (decide (k < lb.length))), (eN k), (ixp u2 k), (eB (lb.getD k 0))] ++ (zs z 30 13 ++ [(zf15 43), (zf15 44)]))) ?_
   refine wI (d_assign rfl) ?_
   refine wI (d_assign rfl) ?_
   refine wF ([(zf15 0), u2, (zf15 2), (zf15 3), (zf15 4), (sli b 0 (la.length + lb.length) (la.length + lb.length)), (eN i), (eB (la.getD i 0)), (eN k), (eB (lb.getD k 0))] ++ (zs zf15 10 6 ++ [u1, (eN la.length), (eN i), (Value.bool (decide (i < la.length))), (eN i), (ixp u1 i), (eB (la.getD i 0)), u2, (eN lb.length), (eN k), (Value.bool (decide (k < lb.length))), (eN k), (ixp u2 k), (eB (lb.getD k 0))] ++ (zs z 30 13 ++ [(zf15 43), (zf15 44)]))) ?_
   refine wpL.done ?_
   refine then_n ?_
   refine drawn_last (O := (Is1 b)) (m := 11) (R := fun w_ => Arr 5 b (((pmul la lb i k).set (i + k) (((pmul la lb i k).getD (i + k) 0) ^^^ (gm (la.getD i 0) (lb.getD k 0)))).map eB) w_) [0, 0, 0, 6, 15, 31, 0, 0, 192, 511, 1023, 2047] [(0, 30), (1, 31), (2, 32), (3, 33), (4, 34), (5, 35), (6, 36), (7, 37), (8, 38), (9, 39), (10, 40)] [(sli b 0 (la.length + lb.length) (la.length + lb.length)), (eN i), (eN k), (eN (i + k)), (ptr b (i + k)), (eB ((pmul la lb i k).getD (i + k) 0)), (eB (la.getD i 0)), (eB (lb.getD k 0)), (eB (gm (la.getD i 0) (lb.getD k 0))), (eB (((pmul la lb i k).getD (i + k) 0) ^^^ (gm (la.getD i 0) (lb.getD k 0)))), (ptr b (i + k))] ([(zf15 0), u2, (zf15 2), (zf15 3), (zf15 4), (sli b 0 (la.length + lb.length) (la.length + lb.length)), (eN i), (eB (la.getD i 0)), (eN k), (eB (lb.getD k 0))] ++ (zs zf15 10 6 ++ [u1, (eN la.length), (eN i), (Value.bool (decide (i < la.length))), (eN i), (ixp u1 i), (eB (la.getD i 0)), u2, (eN lb.length), (eN k), (Value.bool (decide (k < lb.length))), (eN k), (ixp u2 k), (eB (lb.getD k 0)), (sli b 0 (la.length + lb.length) (la.length + lb.length)), (eN i), (eN k), (eN (i + k)), (ptr b (i + k)), (eB ((pmul la lb i k).getD (i + k) 0)), (eB (la.getD i 0)), (eB (lb.getD k 0)), (eB (gm (la.getD i 0) (lb.getD k 0))), (eB (((pmul la lb i k).getD (i + k) 0) ^^^ (gm (la.getD i 0) (lb.getD k 0)))), (ptr b (i + k)), (z 41), (z 42), (zf15 43), (zf15 44)])) s_mx (by kernel_rfl) (by kernel_rfl) rfl rfl (by decide) (by kernel_rfl) (by kernel_rfl) ?_ (fun _ _ h_ ho_ => h_.step0 ho_) ⟨_, rfl, rfl, fun w_ hO_ => gd rfl ((d_store (b := b) (i := (i + k)) (v := (eB (((pmul la lb i k).getD (i + k) 0) ^^^ (gm (la.getD i 0) (lb.getD k 0))))) s_ti5 rfl rfl rfl (a13.step0 hO_) (by rw [List.length_map, l_b]; omega) (m_put (pmul la lb i k) (i + k) (((pmul la lb i k).getD (i + k) 0) ^^^ (gm (la.getD i 0) (lb.getD k 0))) eB)).mono fun u_ w2_ h_ => ⟨h_.2, h_.1⟩)⟩ ?_
   ·
    intro w_ hO_
    refine AllG.cons (gi rfl (d_move rfl)) ?_
    refine AllG.cons (gi rfl (d_move rfl)) ?_
    refine AllG.cons (gi rfl (d_move rfl)) ?_
    refine AllG.cons (gi rfl (n_add (a := i) (b := k) rfl rfl (by omega))) ?_
    refine AllG.cons (gi rfl (d_index1 (n := (la.length + lb.length)) (i := (i + k)) Try.underlying22 s_ti5 rfl (show _ = Value.int _ ((i + k : Nat) : Int) from rfl) (by omega))) ?_
    refine AllG.cons (gi rfl (d_load ⟨_, Try.underlying5, rfl⟩ rfl (a13.step0 hO_) (m_at (d := 0) (by rw [l_b]; omega)))) ?_
    refine AllG.cons (gi rfl (d_move rfl)) ?_
    refine AllG.cons (gi rfl (d_move rfl)) ?_
    refine AllG.cons (gc rfl (d_call (xl := [.tmp 36, .tmp 37]) (al := [(eB (la.getD i 0)), (eB (lb.getD k 0))]) Try.func90 (by kernel_rfl) rfl rfl rfl (gfMul_ok (la.getD i 0) (lb.getD k 0) _))) ?_
    refine AllG.cons (gi rfl (b_xor (c := ((pmul la lb i k).getD (i + k) 0)) (e := (gm (la.getD i 0) (lb.getD k 0))) rfl rfl)) ?_
    refine AllG.cons (gi rfl (d_index1 (n := (la.length + lb.length)) (i := (i + k)) Try.underlying22 s_ti5 rfl (show _ = Value.int _ ((i + k : Nat) : Int) from rfl) (by omega))) ?_
    exact AllG.nil
   intro w22 o23 a24
   replace h1 := h1.stepb o23 in1
   replace h2 := h2.stepb o23 in1
   replace oW := oW.tailb o23 g_oW_b
   replace o16 := o16.tail o23 (fun k _ e => by have : k = b := e; rw [this]; exact in1)
   replace o19 := o19.tail o23 (fun k _ e => by have : k = b := e; rw [this]; exact in1)
   replace l_b : ((pmul la lb i k).set (i + k) (((pmul la lb i k).getD (i + k) 0) ^^^ (gm (la.getD i 0) (lb.getD k 0))) : List UInt8).length = la.length + lb.length := (List.length_set ..).trans l_b
   refine inb_n (then_n ?_)
   refine plain ?_
   refine wI (n_add (a := k) (b := 1) rfl rfl (by omega)) ?_
   refine wI (d_move rfl) ?_
   refine wF ([(zf15 0), u2, (zf15 2), (zf15 3), (zf15 4), (sli b 0 (la.length + lb.length) (la.length + lb.length)), (eN i), (eB (la.getD i 0)), (eN k), (eB (lb.getD k 0))] ++ (zs zf15 10 6 ++ [u1, (eN la.length), (eN i), (Value.bool (decide (i < la.length))), (eN i), (ixp u1 i), (eB (la.getD i 0)), u2, (eN lb.length), (eN (k + 1)), (Value.bool (decide (k < lb.length))), (eN k), (ixp u2 k), (eB (lb.getD k 0)), (sli b 0 (la.length + lb.length) (la.length + lb.length)), (eN i), (eN k), (eN (i + k)), (ptr b (i + k)), (eB ((pmul la lb i k).getD (i + k) 0)), (eB (la.getD i 0)), (eB (lb.getD k 0)), (eB (gm (la.getD i 0) (lb.getD k 0))), (eB (((pmul la lb i k).getD (i + k) 0) ^^^ (gm (la.getD i 0) (lb.getD k 0)))), (ptr b (i + k)), (eN (k + 1)), (z 42), (zf15 43), (zf15 44)])) ?_
   refine wpL.done ?_
   refine then_n ?_
   refine ⟨_, (k + 1), rfl, rfl, ⟨?_, ?_, ?_, ?_⟩, ?_⟩
   ·
    (try dsimp only)
    all_goals (omega)
   ·
    exact o19
   ·
    exact pmul_length la lb _ _
   ·
    (try dsimp only)
    all_goals (rw [← pmul_step (by omega) (by omega)]; exact a24)
   ·
    (try dsimp only)
    all_goals (omega)
  refine wpIn_exit ?_
  refine then_x (then_x (inb_e ?_))
  refine inb_n (then_n ?_)
  refine forget (fun zf25 => ([(zf15 0), u2, (zf15 2), (zf15 3), (zf15 4), (sli b 0 (la.length + lb.length) (la.length + lb.length)), (zf25 6), (zf25 7), (zf25 8), (zf25 9)] ++ (zs zf15 10 6 ++ [u1, (eN la.length), (eN i)] ++ (zs zf25 19 6 ++ [(eN k), (zf25 26), (zf25 27), (zf25 28), (zf25 29)] ++ (zs z 30 11 ++ [(zf25 41), (zf25 42), (zf15 43), (zf15 44)]))))) (by kernel_rfl) (fun zf25 => ?_)
  refine plain ?_
  refine wI (n_add (a := i) (b := 1) rfl rfl (by omega)) ?_
  refine wI (d_move rfl) ?_
  refine wF ([(zf15 0), u2, (zf15 2), (zf15 3), (zf15 4), (sli b 0 (la.length + lb.length) (la.length + lb.length)), (zf25 6), (zf25 7), (zf25 8), (zf25 9)] ++ (zs zf15 10 6 ++ [u1, (eN la.length), (eN (i + 1))] ++ (zs zf25 19 6 ++ [(eN k), (zf25 26), (zf25 27), (zf25 28), (zf25 29)] ++ (zs z 30 11 ++ [(zf25 41), (eN (i + 1)), (zf15 43), (zf15 44)])))) ?_
  refine wpL.done ?_
  refine then_n ?_
  refine ⟨_, (i + 1), rfl, rfl, ⟨?_, ?_, ?_, ?_⟩, ?_⟩
  ·
   (try dsimp only)
   all_goals (omega)
  ·
   exact o16
  ·
   exact pmul_length la lb _ _
  ·
   (try dsimp only)
   all_goals (rw [← pmul_next (by omega), show lb.length = k by omega]; exact a13)
  ·
   (try dsimp only)
   all_goals (omega)
 refine wpIn_exit ?_
 refine then_x (then_x (inb_e ?_))
 refine then_n ?_
 refine wpIn_seq ?_
 refine plain ?_
 refine wI (d_move rfl) ?_
 refine wO (d_call (xl := [.tmp 43]) (al := [(sli b 0 (la.length + lb.length) (la.length + lb.length))]) Try.func88 (by kernel_rfl) rfl rfl rfl (trim_ok (pmul la lb i 0) (sli b 0 (la.length + lb.length) (la.length + lb.length)) _ (Ps.no (arr_seq a13 l_b (Nat.le_refl _))) (by have := pmul_length la lb i 0; first | omega | (simp; done) | (simp; omega)))) ?_
 rintro u28 w26 f29
 obtain ⟨bo30, f29, g31, o27⟩ := f29
 have nq_r_b := nq_new g31 a13.lt
 have q_oW_r := qnew g31 oW.size
 have q_o16_r := qnew g31 o16.size
 replace h1 := h1.newq o27 g31
 replace h2 := h2.newq o27 g31
 replace a13 := a13.step0 o27
 replace oW := oW.tail0 o27
 replace o16 := o16.tail0 o27
 refine wI (d_assign rfl) ?_
 refine wF ([(zf15 0), u2, (zf15 2), (zf15 3), u28, (sli b 0 (la.length + lb.length) (la.length + lb.length)), (z 6), (z 7), (z 8), (z 9)] ++ (zs zf15 10 6 ++ [u1, (eN la.length), (eN i), (Value.bool (decide (i < la.length)))] ++ (zs z 20 23 ++ [(sli b 0 (la.length + lb.length) (la.length + lb.length)), u28]))) ?_
 refine wpL.done ?_
 refine then_n ?_
 refine wpIn_ret ?_
 refine leave0 (v := u28) (res1 Try.results92 rfl) ?_
 exact ROw.mk_ f29 (by rw [show i = la.length by omega]; exact pmul_done la lb) q_oW_r oW

set_option maxRecDepth 20000 in
set_option maxHeartbeats 1000000 in
theorem ref3Trim_ok (la : List UInt8) (u1 : Value) (W : World) (h1 : Ps No (Seq kB la u1) W) (g1 : la.length ≤ 8388608) :
    CW Try.prog 113 #[u1] W (Rt (ROw 5 eB (trimL la) W)) := by
 have oW : Only No W W := Only.refl _ _
 refine enter (al := [u1]) (k := 22) (l := ([u1] ++ (us 22))) Try.func113 rfl Try.ntmps113 rfl rfl ?_
 refine wpIn_seq ?_
 refine plain ?_
 refine wI (d_assign rfl) ?_
 refine wF ([u1, undef, (Value.slice none 0 0)] ++ (us 20)) ?_
 refine wpL.done ?_
 refine then_n ?_
 refine wpIn_seq ?_
 refine plain ?_
 refine wI (d_move rfl) ?_
 refine wI (d_lenS rfl Try.underlying22 rfl h1) ?_
 refine wI (d_assign rfl) ?_
 refine wF ([u1, undef, (Value.slice none 0 0), (eN la.length), u1, (eN la.length)] ++ (us 17)) ?_
 refine wpL.done ?_
 refine then_n ?_
 refine wpIn_seq ?_
 refine wpIn_block ?_
 refine loop2 (fun (n : (Nat)) => fun (z : Nat → Value) => (([u1, undef, (Value.slice none 0 0), (eN n), u1, (eN la.length)] ++ (zs z 6 12 ++ (us 5))) : List Value)) (fun (n : (Nat)) => fun (w_ : World) => (n ≤ la.length) ∧ (tl la n = tlen la) ∧ Only No W w_) (fun (n : (Nat)) => n) la.length rfl ?_ ?_
 ·
  refine ⟨?_, ?_, ?_⟩
  ·
   exact Nat.le_refl _
  ·
   exact rfl
  ·
   exact Only.refl _ _
 rintro n z w12 ⟨hn, hI, o11⟩
 (try dsimp only)
 replace h1 := h1.step o11 no_any
 replace oW := oW.tail o11 tl_no
 refine wpIn_seq ?_
 refine wpIn_seq ?_
 by_cases n0 : 0 < n
 ·
  refine plain ?_
  refine wI (d_move rfl) ?_
  refine wI (n_gtr (a := n) (b := 0) rfl rfl (decide_eq_true n0)) ?_
  refine wI (d_move rfl) ?_
  refine wF ([u1, undef, (Value.slice none 0 0), (eN n), u1, (eN la.length), (eN n), (Value.bool true), (Value.bool true)] ++ (zs z 9 9 ++ (us 5))) ?_
  refine wpL.onis rfl rfl rfl (nb rfl) rfl (d_move rfl) ?_
  refine wpL.onis rfl rfl rfl (nb rfl) rfl (d_move rfl) ?_
  refine wpL.onis rfl rfl rfl (nb rfl) rfl (n_sub (a := n) (b := 1) rfl rfl (by omega) (by omega)) ?_
  refine wF ([u1, undef, (Value.slice none 0 0), (eN n), u1, (eN la.length), (eN n), (Value.bool true), (Value.bool true), u1, (eN n), (eN (n - 1))] ++ (zs z 12 6 ++ (us 5))) ?_
  refine wpL.onis rfl rfl rfl (nb rfl) rfl (d_ix (i := (n - 1)) (xs := la) Try.underlying22 s_ti5 rfl h1 (show _ = Value.int _ ((n - 1 : Nat) : Int) from rfl) (by first | omega | (simp; done) | (simp; omega))) ?_
  refine wpL.onis rfl rfl rfl (nb rfl) rfl (d_ldx (i := (n - 1)) (xs := la) (enc := eB) (v := (la.getD (n - 1) 0)) ⟨_, Try.underlying5, rfl⟩ rfl h1 (g_at (by first | omega | (simp; done) | (simp; omega)))) ?_
  refine wpL.onis rfl rfl rfl (nb rfl) rfl (b_eql (c := (la.getD (n - 1) 0)) (e := 0) rfl rfl rfl) ?_
  refine wF ([u1, undef, (Value.slice none 0 0), (eN n), u1, (eN la.length), (eN n), (Value.bool true), (Value.bool true), u1, (eN n), (eN (n - 1)), (ixp u1 (n - 1)), (eB (la.getD (n - 1) 0)), (Value.bool (decide (((la.getD (n - 1) 0) : UInt8) = (0 : UInt8)))), (z 15), (z 16), (z 17)] ++ (us 5)) ?_
  refine wI (d_pick (b := true) (v := (Value.bool (decide (((la.getD (n - 1) 0) : UInt8) = (0 : UInt8))))) rfl rfl) ?_
  refine wF ([u1, undef, (Value.slice none 0 0), (eN n), u1, (eN la.length), (eN n), (Value.bool true), (Value.bool true), u1, (eN n), (eN (n - 1)), (ixp u1 (n - 1)), (eB (la.getD (n - 1) 0)), (Value.bool (decide (((la.getD (n - 1) 0) : UInt8) = (0 : UInt8)))), (Value.bool (decide (((la.getD (n - 1) 0) : UInt8) = (0 : UInt8)))), (z 16), (z 17)] ++ (us 5)) ?_
  refine wpL.done ?_
  refine then_n ?_
  refine forget (fun zf13 => ([u1, undef, (Value.slice none 0 0), (eN n), u1, (eN la.length)] ++ (zs zf13 6 9 ++ [(Value.bool (decide (((la.getD (n - 1) 0) : UInt8) = (0 : UInt8)))), (zf13 16), (zf13 17)] ++ (us 5)))) (by kernel_rfl) (fun zf13 => ?_)
  refine cond_if rfl (fun k1 => ?_) (fun k1 => ?_)
  ·
   refine wpIn_skip ?_
   refine then_n ?_
   refine wpIn_block ?_
   refine plain ?_
   refine wI (d_move rfl) ?_
   refine wI (n_sub (a := n) (b := 1) rfl rfl (by omega) (by omega)) ?_
   refine wI (d_assign rfl) ?_
   refine wF ([u1, undef, (Value.slice none 0 0), (eN (n - 1)), u1, (eN la.length)] ++ (zs zf13 6 9 ++ [(Value.bool (decide (((la.getD (n - 1) 0) : UInt8) = (0 : UInt8)))), (eN n), (eN (n - 1))] ++ (us 5))) ?_
   refine wpL.done ?_
   refine inb_n (then_n ?_)
   refine ⟨_, (n - 1), rfl, rfl, ⟨?_, ?_, ?_⟩, ?_⟩
   ·
    (try dsimp only)
    all_goals (omega)
   ·
    (try dsimp only)
    all_goals (rw [← hI, tl_go' n0 k1])
   ·
    exact o11
   ·
    (try dsimp only)
    all_goals (omega)
  refine wpIn_exit ?_
  refine then_x (then_x (inb_e ?_))
  refine then_n ?_
  refine wpIn_seq ?_
  refine plain ?_
  refine wO (d_buildL (cs := []) Try.underlying22 s_ti5 rfl (nb rfl) parts_nil rfl) ?_
  rintro _ w15 ⟨b14, rfl, g16, a17, o18⟩
  replace a17 : Arr 5 b14 (([] : List UInt8).map eB) w15 := a17
  have l_b14 : ([] : List UInt8).length = 0 := rfl
  have g_oW_b14 : W.heap.size ≤ b14 := Nat.le_trans oW.size g16
  have g_o11_b14 : W.heap.size ≤ b14 := Nat.le_trans o11.size g16
  replace h1 := h1.new o18 g16
  replace oW := oW.tail0 o18
  replace o11 := o11.tail0 o18
  refine wI (d_move rfl) ?_
  refine wI (d_move rfl) ?_
  refine wF ([u1, undef, (Value.slice none 0 0), (eN n), u1, (eN la.length)] ++ (zs zf13 6 9 ++ [(Value.bool (decide (((la.getD (n - 1) 0) : UInt8) = (0 : UInt8)))), (zf13 16), (zf13 17), (sli b14 0 0 0), u1, (eN n), undef, undef])) ?_
  refine wO (d_sliceS (xs := la) (ys := (la.take n)) (l := 0) (h := n) Try.underlying22 s_ti5 rfl h1 Bd.none (Bd.some (l := n) (k := .i64) rfl) (by omega) (by omega) (by simp)) ?_
  rintro u19 _ ⟨f20, rfl⟩
  have a22 := Ow.of_map2 a17 l_b14
  have q_oW_row21 : Fr (some b14) none W.heap.size := Fr.new g_oW_b14
  have q_o11_row21 : Fr (some b14) none W.heap.size := Fr.new g_o11_b14
  replace h1 := h1.less (Y := (Orq (some b14) No)) (xx_br xx_id)
  replace f20 := f20.less (Y := (Orq (some b14) No)) (xx_br xx_id)
  refine wO (d_append Try.underlying22 Try.underlying22 s_ti5 rfl rfl rfl a22 (SrcV.of_seq f20 (fun _ => rfl)) (by simp only [List.length_take, List.length_nil]; omega) (by simp only [List.length_take, List.length_nil]; omega) rfl) ?_
  rintro u23 w24 ⟨bo25, a26, o27, q28⟩
  replace a26 : Ow 5 1 bo25 u23 (([] : List UInt8) ++ (la.take n)).length ((([] : List UInt8) ++ (la.take n)).map eB) w24 := by rw [List.length_append, List.map_append]; exact a26
  replace h1 := h1.gr o27 (fun k e => (.inl e)) (xx_re (Fr.of_or q28) xx_id)
  replace f20 := f20.gr o27 (fun k e => (.inl e)) (xx_re (Fr.of_or q28) xx_id)
  have tq := oW.size
  replace oW := oW.tailr o27 q_oW_row21 (fun _ e => by cases e)
  replace q_oW_row21 := qtr (Fr.of_or q28) q_oW_row21 tq
  clear tq
  have tq := o11.size
  replace o11 := o11.tailr o27 q_o11_row21 (fun _ e => by cases e)
  replace q_o11_row21 := qtr (Fr.of_or q28) q_o11_row21 tq
  clear tq
  refine wI (d_assign rfl) ?_
  refine wF ([u1, undef, u23, (eN n), u1, (eN la.length)] ++ (zs zf13 6 9 ++ [(Value.bool (decide (((la.getD (n - 1) 0) : UInt8) = (0 : UInt8)))), (zf13 16), (zf13 17), (sli b14 0 0 0), u1, (eN n), u19, u23])) ?_
  refine wpL.done ?_
  refine then_n ?_
  refine forget (fun zf29 => ([(zf29 0), (zf29 1), u23, (eN n)] ++ (zs zf29 4 19))) (by kernel_rfl) (fun zf29 => ?_)
  refine wpIn_ret ?_
  refine leave0 (v := u23) (res1 Try.results113 rfl) ?_
  rw [tl_stay' n0 k1] at hI
  exact ROw.mk_ a26 (by rw [hI]; rfl) q_oW_row21 oW
 refine plain ?_
 refine wI (d_move rfl) ?_
 refine wI (n_gtr (a := n) (b := 0) rfl rfl (decide_eq_false n0)) ?_
 refine wI (d_move rfl) ?_
 refine wF ([u1, undef, (Value.slice none 0 0), (eN n), u1, (eN la.length), (eN n), (Value.bool false), (Value.bool false)] ++ (zs z 9 9 ++ (us 5))) ?_
 refine wpL.off rfl rfl rfl (nb rfl) rfl ?_
 refine wpL.off rfl rfl rfl (nb rfl) rfl ?_
 refine wF ([u1, undef, (Value.slice none 0 0), (eN n), u1, (eN la.length), (eN n), (Value.bool false), (Value.bool false), undef, undef] ++ (zs z 11 7 ++ (us 5))) ?_
 refine wpL.off rfl rfl rfl (nb rfl) rfl ?_
 refine wpL.off rfl rfl rfl (nb rfl) rfl ?_
 refine wpL.off rfl rfl rfl (nb rfl) rfl ?_
 refine wF ([u1, undef, (Value.slice none 0 0), (eN n), u1, (eN la.length), (eN n), (Value.bool false), (Value.bool false)] ++ (us 5 ++ [(z 14), (z 15), (z 16), (z 17)] ++ (us 5))) ?_
 refine wpL.off rfl rfl rfl (nb rfl) rfl ?_
 refine wI (d_pick (b := false) (v := (Value.bool false)) rfl rfl) ?_
 refine wF ([u1, undef, (Value.slice none 0 0), (eN n), u1, (eN la.length), (eN n), (Value.bool false), (Value.bool false)] ++ (us 6 ++ [(Value.bool false), (z 16), (z 17)] ++ (us 5))) ?_
 refine wpL.done ?_
 refine then_n ?_
 refine cond_f rfl ?_
 refine wpIn_exit ?_
 refine then_x (then_x (inb_e ?_))
 refine then_n ?_
 refine wpIn_seq ?_
 refine plain ?_
 refine wO (d_buildL (cs := []) Try.underlying22 s_ti5 rfl (nb rfl) parts_nil rfl) ?_
 rintro _ w31 ⟨b30, rfl, g32, a33, o34⟩
 replace a33 : Arr 5 b30 (([] : List UInt8).map eB) w31 := a33
 have l_b30 : ([] : List UInt8).length = 0 := rfl
 have g_oW_b30 : W.heap.size ≤ b30 := Nat.le_trans oW.size g32
 have g_o11_b30 : W.heap.size ≤ b30 := Nat.le_trans o11.size g32
 replace h1 := h1.new o34 g32
 replace oW := oW.tail0 o34
 replace o11 := o11.tail0 o34
 refine wI (d_move rfl) ?_
 refine wI (d_move rfl) ?_
 refine wF ([u1, undef, (Value.slice none 0 0), (eN n), u1, (eN la.length), (eN n), (Value.bool false), (Value.bool false)] ++ (us 6 ++ [(Value.bool false), (z 16), (z 17), (sli b30 0 0 0), u1, (eN n), undef, undef])) ?_
 refine wO (d_sliceS (xs := la) (ys := (la.take n)) (l := 0) (h := n) Try.underlying22 s_ti5 rfl h1 Bd.none (Bd.some (l := n) (k := .i64) rfl) (by omega) (by omega) (by simp)) ?_
 rintro u35 _ ⟨f36, rfl⟩
 have a38 := Ow.of_map2 a33 l_b30
 have q_oW_row37 : Fr (some b30) none W.heap.size := Fr.new g_oW_b30
 have q_o11_row37 : Fr (some b30) none W.heap.size := Fr.new g_o11_b30
 replace h1 := h1.less (Y := (Orq (some b30) No)) (xx_br xx_id)
 replace f36 := f36.less (Y := (Orq (some b30) No)) (xx_br xx_id)
 refine wO (d_append Try.underlying22 Try.underlying22 s_ti5 rfl rfl rfl a38 (SrcV.of_seq f36 (fun _ => rfl)) (by simp only [List.length_take, List.length_nil]; omega) (by simp only [List.length_take, List.length_nil]; omega) rfl) ?_
 rintro u39 w40 ⟨bo41, a42, o43, q44⟩
 replace a42 : Ow 5 1 bo41 u39 (([] : List UInt8) ++ (la.take n)).length ((([] : List UInt8) ++ (la.take n)).map eB) w40 := by rw [List.length_append, List.map_append]; exact a42
 replace h1 := h1.gr o43 (fun k e => (.inl e)) (xx_re (Fr.of_or q44) xx_id)
 replace f36 := f36.gr o43 (fun k e => (.inl e)) (xx_re (Fr.of_or q44) xx_id)
 have tq := oW.size
 replace oW := oW.tailr o43 q_oW_row37 (fun _ e => by cases e)
 replace q_oW_row37 := qtr (Fr.of_or q44) q_oW_row37 tq
 clear tq
 have tq := o11.size
 replace o11 := o11.tailr o43 q_o11_row37 (fun _ e => by cases e)
 replace q_o11_row37 := qtr (Fr.of_or q44) q_o11_row37 tq
 clear tq
 refine wI (d_assign rfl) ?_
 refine wF ([u1, undef, u39, (eN n), u1, (eN la.length), (eN n), (Value.bool false), (Value.bool false)] ++ (us 6 ++ [(Value.bool false), (z 16), (z 17), (sli b30 0 0 0), u1, (eN n), u35, u39])) ?_
 refine wpL.done ?_
 refine then_n ?_
 refine forget (fun zf45 => ([(zf45 0), (zf45 1), u39, (eN n)] ++ (zs zf45 4 19))) (by kernel_rfl) (fun zf45 => ?_)
 refine wpIn_ret ?_
 refine leave0 (v := u39) (res1 Try.results113 rfl) ?_
 obtain rfl : n = 0 := by omega
 rw [show tl la 0 = 0 from rfl] at hI
 exact ROw.mk_ a42 (by rw [hI]; rfl) q_oW_row37 oW

set_option maxRecDepth 20000 in
set_option maxHeartbeats 1000000 in
theorem ref3Mul_ok (la lb : List UInt8) (u1 u2 : Value) (W : World) (h1 : Ps No (Seq kB la u1) W) (h2 : Ps No (Seq kB lb u2) W) (g1 : la.length ≤ 1048576) (g2 : lb.length ≤ 1048576) :
    CW Try.prog 94 #[u1, u2] W (Rt (ROw 5 eB (mulP la lb) W)) := by
 have oW : Only No W W := Only.refl _ _
 refine enter (al := [u1, u2]) (k := 47) (l := ([u1, u2] ++ (us 47))) Try.func94 rfl Try.ntmps94 rfl rfl ?_
 refine wpIn_seq ?_
 refine plain ?_
 refine wI (d_assign rfl) ?_
 refine wF ([u1, u2, undef, undef, (Value.slice none 0 0)] ++ (us 44)) ?_
 refine wpL.done ?_
 refine then_n ?_
 refine wpIn_seq ?_
 refine plain ?_
 refine wI (d_move rfl) ?_
 refine wI (d_lenS rfl Try.underlying22 rfl h1) ?_
 refine wI (d_move rfl) ?_
 refine wF ([u1, u2, undef, undef, (Value.slice none 0 0), undef, undef, undef, u1, (eN la.length), u2] ++ (us 38)) ?_
 refine wI (d_lenS rfl Try.underlying22 rfl h2) ?_
 refine wI (n_add (a := la.length) (b := lb.length) rfl rfl (by omega)) ?_
 refine wO (d_make1 (n := la.length + lb.length) Try.underlying22 s_ti5 rfl rfl (by omega) (by omega) rfl) ?_
 rintro _ w11 ⟨b, rfl, g12, a13, o14⟩
 replace a13 : Arr 5 b ((List.replicate (la.length + lb.length) 0).map eB) w11 := by rw [List.map_replicate]; exact a13
 have l_b : (List.replicate (la.length + lb.length) 0 : List UInt8).length = la.length + lb.length := by simp
 have g_oW_b : W.heap.size ≤ b := Nat.le_trans oW.size g12
 replace h1 := h1.new o14 g12
 replace h2 := h2.new o14 g12
 replace oW := oW.tail0 o14
 refine wF ([u1, u2, undef, undef, (Value.slice none 0 0), undef, undef, undef, u1, (eN la.length), u2, (eN lb.length), (eN (la.length + lb.length)), (sli b 0 (la.length + lb.length) (la.length + lb.length))] ++ (us 35)) ?_
 refine wI (d_assign rfl) ?_
 refine wF ([u1, u2, undef, undef, (Value.slice none 0 0), (sli b 0 (la.length + lb.length) (la.length + lb.length)), undef, undef, u1, (eN la.length), u2, (eN lb.length), (eN (la.length + lb.length)), (sli b 0 (la.length + lb.length) (la.length + lb.length))] ++ (us 35)) ?_
 refine wpL.done ?_
 refine then_n ?_
 refine wpIn_seq ?_
 refine wpIn_seq ?_
 refine plain ?_
 refine wI (d_assign rfl) ?_
 refine wF ([u1, u2, undef, undef, (Value.slice none 0 0), (sli b 0 (la.length + lb.length) (la.length + lb.length)), (eN 0), undef, u1, (eN la.length), u2, (eN lb.length), (eN (la.length + lb.length)), (sli b 0 (la.length + lb.length) (la.length + lb.length))] ++ (us 35)) ?_
 refine wpL.done ?_
 refine then_n ?_
 refine wpIn_block ?_
 refine loop2 (fun (i : (Nat)) => fun (z : Nat → Value) => (([u1, u2, undef, undef, (Value.slice none 0 0), (sli b 0 (la.length + lb.length) (la.length + lb.length)), (eN i), (z 7), u1, (eN la.length), u2, (eN lb.length), (eN (la.length + lb.length)), (sli b 0 (la.length + lb.length) (la.length + lb.length))] ++ (zs z 14 33 ++ [undef, undef])) : List Value)) (fun (i : (Nat)) => fun (w_ : World) => (i ≤ la.length) ∧ Only (Or1 b No) w11 w_ ∧ (pmul la lb i 0).length = la.length + lb.length ∧ Arr 5 b ((pmul la lb i 0).map eB) w_) (fun (i : (Nat)) => la.length - i) 0 rfl ?_ ?_
 ·
  refine ⟨?_, ?_, ?_, ?_⟩
  ·
   exact Nat.zero_le _
  ·
   exact Only.refl _ _
  ·
   exact pmul_length la lb 0 0
  ·
   (try dsimp only)
   all_goals (rw [← pmul_zero]; exact a13)
 rintro i z w16 ⟨hi, o15, l_b, a13⟩
 (try dsimp only)
 replace h1 := h1.step o15 (or1_mono no_any)
 replace h2 := h2.step o15 (or1_mono no_any)
 replace oW := oW.tail o15 (tl_new g_oW_b tl_no)
 refine wpIn_seq ?_
 refine wpIn_seq ?_
 refine plain ?_
 refine wI (d_move rfl) ?_
 refine wI (d_move rfl) ?_
 refine wI (d_lenS rfl Try.underlying22 rfl h1) ?_
 refine wF ([u1, u2, undef, undef, (Value.slice none 0 0), (sli b 0 (la.length + lb.length) (la.length + lb.length)), (eN i), (z 7), u1, (eN la.length), u2, (eN lb.length), (eN (la.length + lb.length)), (sli b 0 (la.length + lb.length) (la.length + lb.length)), (eN i), u1, (eN la.length)] ++ (zs z 17 30 ++ [undef, undef])) ?_
 refine wI (n_lss (a := i) (b := la.length) rfl rfl rfl) ?_
 refine wF ([u1, u2, undef, undef, (Value.slice none 0 0), (sli b 0 (la.length + lb.length) (la.length + lb.length)), (eN i), (z 7), u1, (eN la.length), u2, (eN lb.length), (eN (la.length + lb.length)), (sli b 0 (la.length + lb.length) (la.length + lb.length)), (eN i), u1, (eN la.length), (Value.bool (decide (i < la.length)))] ++ (zs z 18 29 ++ [undef, undef])) ?_
 refine wpL.done ?_
 refine then_n ?_
 refine cond_if rfl (fun c17 => ?_) (fun c17 => ?_)
 ·
  refine wpIn_skip ?_
  refine then_n ?_
  refine wpIn_seq ?_
  refine wpIn_block ?_
  refine wpIn_seq ?_
  refine plain ?_
  refine wI (d_assign rfl) ?_
  refine wF ([u1, u2, undef, undef, (Value.slice none 0 0), (sli b 0 (la.length + lb.length) (la.length + lb.length)), (eN i), (eN 0), u1, (eN la.length), u2, (eN lb.length), (eN (la.length + lb.length)), (sli b 0 (la.length + lb.length) (la.length + lb.length)), (eN i), u1, (eN la.length), (Value.bool (decide (i < la.length)))] ++ (zs z 18 29 ++ [undef, undef])) ?_
  refine wpL.done ?_
  refine then_n ?_
  refine wpIn_block ?_
  refine loop2 (fun (k : (Nat)) => fun (z : Nat → Value) => (([u1, u2, undef, undef, (Value.slice none 0 0), (sli b 0 (la.length + lb.length) (la.length + lb.length)), (eN i), (eN k), u1, (eN la.length), u2, (eN lb.length), (eN (la.length + lb.length)), (sli b 0 (la.length + lb.length) (la.length + lb.length)), (eN i), u1, (eN la.length), (Value.bool (decide (i < la.length)))] ++ (zs z 18 29 ++ [undef, undef])) : List Value)) (fun (k : (Nat)) => fun (w_ : World) => (k ≤ lb.length) ∧ Only (Or1 b No) w16 w_ ∧ (pmul la lb i k).length = la.length + lb.length ∧ Arr 5 b ((pmul la lb i k).map eB) w_) (fun (k : (Nat)) => lb.length - k) 0 rfl ?_ ?_
  ·
   refine ⟨?_, ?_, ?_, ?_⟩
   ·
    exact Nat.zero_le _
   ·
    exact Only.refl _ _
   ·
    exact l_b
   ·
    exact a13
  rintro k z w19 ⟨hk, o18, l_b, a13⟩
  (try dsimp only)
  replace h1 := h1.step o18 (or1_mono no_any)
  replace h2 := h2.step o18 (or1_mono no_any)
  replace oW := oW.tail o18 (tl_new g_oW_b tl_no)
  replace o15 := o15.tail o18 (tl_in in1 tl_no)
  refine wpIn_seq ?_
  refine wpIn_seq ?_
  refine plain ?_
  refine wI (d_move rfl) ?_
  refine wI (d_move rfl) ?_
  refine wI (d_lenS rfl Try.underlying22 rfl h2) ?_
  refine wF ([u1, u2, undef, undef, (Value.slice none 0 0), (sli b 0 (la.length + lb.length) (la.length + lb.length)), (eN i), (eN k), u1, (eN la.length), u2, (eN lb.length), (eN (la.length + lb.length)), (sli b 0 (la.length + lb.length) (la.length + lb.length)), (eN i), u1, (eN la.length), (Value.bool (decide (i < la.length))), (z 18), (z 19), (eN k), u2, (eN lb.length)] ++ (zs z 23 24 ++ [undef, undef])) ?_
  refine wI (n_lss (a := k) (b := lb.length) rfl rfl rfl) ?_
  refine wF ([u1, u2, undef, undef, (Value.slice none 0 0), (sli b 0 (la.length + lb.length) (la.length + lb.length)), (eN i), (eN k), u1, (eN la.length), u2, (eN lb.length), (eN (la.length + lb.length)), (sli b 0 (la.length + lb.length) (la.length + lb.length)), (eN i), u1, (eN la.length), (Value.bool (decide (i < la.length))), (z 18), (z 19), (eN k), u2, (eN lb.length), (Value.bool (decide (k < lb.length)))] ++ (zs z 24 23 ++ [undef, undef])) ?_
  refine wpL.done ?_
  refine then_n ?_
  refine cond_if rfl (fun c20 => ?_) (fun c20 => ?_)
  ·
   refine wpIn_skip ?_
   refine then_n ?_
   refine wpIn_seq ?_
   refine wpIn_block ?_
   refine drawn_last (O := (Is1 b)) (m := 21) (R := fun w_ => Arr 5 b (((pmul la lb i k).set (i + k) (((pmul la lb i k).getD (i + k) 0) ^^^ (gm (la.getD i 0) (lb.getD k 0)))).map eB) w_) [0, 0, 0, 6, 0, 0, 0, 96, 240, 496, 0, 0, 3072, 7168, 0, 0, 49152, 114688, 261120, 524272, 1048575, 2097151] [(0, 26), (1, 27), (2, 28), (3, 29), (4, 30), (5, 31), (6, 32), (7, 33), (8, 34), (9, 35), (10, 36), (11, 37), (12, 38), (13, 39), (14, 40), (15, 41), (16, 42), (17, 43), (18, 44), (19, 45), (20, 46)] [(sli b 0 (la.length + lb.length) (la.length + lb.length)), (eN i), (eN k), (eN (i + k)), (sli b 0 (la.length + lb.length) (la.length + lb.length)), (eN i), (eN k), (eN (i + k)), (ptr b (i + k)), (eB ((pmul la lb i k).getD (i + k) 0)), u1, (eN i), (ixp u1 i), (eB (la.getD i 0)), u2, (eN k), (ixp u2 k), (eB (lb.getD k 0)), (eB (gm (la.getD i 0) (lb.getD k 0))), (eB (((pmul la lb i k).getD (i + k) 0) ^^^ (gm (la.getD i 0) (lb.getD k 0)))), (ptr b (i + k))] [u1, u2, undef, undef, (Value.slice none 0 0), (sli b 0 (la.length + lb.length) (la.length + lb.length)), (eN i), (eN k), u1, (eN la.length), u2, (eN lb.length), (eN (la.length + lb.length)), (sli b 0 (la.length + lb.length) (la.length + lb.length)), (eN i), u1, (eN la.length), (Value.bool (decide (i < la.length))), (z 18), (z 19), (eN k), u2, (eN lb.length), (Value.bool (decide (k < lb.length))), (z 24), (z 25), (sli b 0 (la.length + lb.length) (la.length + lb.length)), (eN i), (eN k), (eN (i + k)), (sli b 0 (la.length + lb.length) (la.length + lb.length)), (eN i), (eN k), (eN (i + k)), (ptr b (i + k)), (eB ((pmul la lb i k).getD (i + k) 0)), u1, (eN i), (ixp u1 i), (eB (la.getD i 0)), u2, (eN k), (ixp u2 k), (eB (lb.getD k 0)), (eB (gm (la.getD i 0) (lb.getD k 0))), (eB (((pmul la lb i k).getD (i + k) 0) ^^^ (gm (la.getD i 0) (lb.getD k 0)))), (ptr b (i + k)), undef, undef] s_mx (by kernel_rfl) (by kernel_rfl) rfl rfl (by decide) (by kernel_rfl) (by kernel_rfl) ?_ (fun _ _ h_ ho_ => h_.step0 ho_) ⟨_, rfl, rfl, fun w_ hO_ => gd rfl ((d_store (b := b) (i := (i + k)) (v := (eB (((pmul la lb i k).getD (i + k) 0) ^^^ (gm (la.getD i 0) (lb.getD k 0))))) s_ti5 rfl rfl rfl (a13.step0 hO_) (by rw [List.length_map, l_b]; omega) (m_put (pmul la lb i k) (i + k) (((pmul la lb i k).getD (i + k) 0) ^^^ (gm (la.getD i 0) (lb.getD k 0))) eB)).mono fun u_ w2_ h_ => ⟨h_.2, h_.1⟩)⟩ ?_
   ·
    intro w_ hO_
    refine AllG.cons (gi rfl (d_move rfl)) ?_
    refine AllG.cons (gi rfl (d_move rfl)) ?_
    refine AllG.cons (gi rfl (d_move rfl)) ?_
    refine AllG.cons (gi rfl (n_add (a := i) (b := k) rfl rfl (by omega))) ?_
    refine AllG.cons (gi rfl (d_move rfl)) ?_
    refine AllG.cons (gi rfl (d_move rfl)) ?_
    refine AllG.cons (gi rfl (d_move rfl)) ?_
    refine AllG.cons (gi rfl (n_add (a := i) (b := k) rfl rfl (by omega))) ?_
    refine AllG.cons (gi rfl (d_index1 (n := (la.length + lb.length)) (i := (i + k)) Try.underlying22 s_ti5 rfl (show _ = Value.int _ ((i + k : Nat) : Int) from rfl) (by omega))) ?_
    refine AllG.cons (gi rfl (d_load ⟨_, Try.underlying5, rfl⟩ rfl (a13.step0 hO_) (m_at (d := 0) (by rw [l_b]; omega)))) ?_
    refine AllG.cons (gi rfl (d_move rfl)) ?_
    refine AllG.cons (gi rfl (d_move rfl)) ?_
    refine AllG.cons (gi rfl (d_ix (i := i) (xs := la) Try.underlying22 s_ti5 rfl (h1.step0 hO_) (show _ = Value.int _ ((i : Nat) : Int) from rfl) (by first | omega | (simp; done) | (simp; omega)))) ?_
    refine AllG.cons (gi rfl (d_ldx (i := i) (xs := la) (enc := eB) (v := (la.getD i 0)) ⟨_, Try.underlying5, rfl⟩ rfl (h1.step0 hO_) (g_at (by first | omega | (simp; done) | (simp; omega))))) ?_
    refine AllG.cons (gi rfl (d_move rfl)) ?_
    refine AllG.cons (gi rfl (d_move rfl)) ?_
    refine AllG.cons (gi rfl (d_ix (i := k) (xs := lb) Try.underlying22 s_ti5 rfl (h2.step0 hO_) (show _ = Value.int _ ((k : Nat) : Int) from rfl) (by first | omega | (simp; done) | (simp; omega)))) ?_
    refine AllG.cons (gi rfl (d_ldx (i := k) (xs := lb) (enc := eB) (v := (lb.getD k 0)) ⟨_, Try.underlying5, rfl⟩ rfl (h2.step0 hO_) (g_at (by first | omega | (simp; done) | (simp; omega))))) ?_
    refine AllG.cons (gc rfl (d_call (xl := [.tmp 39, .tmp 43]) (al := [(eB (la.getD i 0)), (eB (lb.getD k 0))]) Try.func112 (by kernel_rfl) rfl rfl rfl (ref2Mul_ok (la.getD i 0) (lb.getD k 0) _))) ?_
    refine AllG.cons (gi rfl (b_xor (c := ((pmul la lb i k).getD (i + k) 0)) (e := (gm (la.getD i 0) (lb.getD k 0))) rfl rfl)) ?_
    refine AllG.cons (gi rfl (d_index1 (n := (la.length + lb.length)) (i := (i + k)) Try.underlying22 s_ti5 rfl (show _ = Value.int _ ((i + k : Nat) : Int) from rfl) (by omega))) ?_
    exact AllG.nil
   intro w21 o22 a23
   replace h1 := h1.stepb o22 in1
   replace h2 := h2.stepb o22 in1
   replace oW := oW.tailb o22 g_oW_b
   replace o15 := o15.tail o22 (fun k _ e => by have : k = b := e; rw [this]; exact in1)
   replace o18 := o18.tail o22 (fun k _ e => by have : k = b := e; rw [this]; exact in1)
   replace l_b : ((pmul la lb i k).set (i + k) (((pmul la lb i k).getD (i + k) 0) ^^^ (gm (la.getD i 0) (lb.getD k 0))) : List UInt8).length = la.length + lb.length := (List.length_set ..).trans l_b
   refine inb_n (then_n ?_)
   refine plain ?_
   refine wI (d_move rfl) ?_
   refine wI (n_add (a := k) (b := 1) rfl rfl (by omega)) ?_
   refine wI (d_assign rfl) ?_
   refine wF [u1, u2, undef, undef, (Value.slice none 0 0), (sli b 0 (la.length + lb.length) (la.length + lb.length)), (eN i), (eN (k + 1)), u1, (eN la.length), u2, (eN lb.length), (eN (la.length + lb.length)), (sli b 0 (la.length + lb.length) (la.length + lb.length)), (eN i), u1, (eN la.length), (Value.bool (decide (i < la.length))), (z 18), (z 19), (eN k), u2, (eN lb.length), (Value.bool (decide (k < lb.length))), (eN k), (eN (k + 1)), (sli b 0 (la.length + lb.length) (la.length + lb.length)), (eN i), (eN k), (eN (i + k)), (sli b 0 (la.length + lb.length) (la.length + lb.length)), (eN i), (eN k), (eN (i + k)), (ptr b (i + k)), (eB ((pmul la lb i k).getD (i + k) 0)), u1, (eN i), (ixp u1 i), (eB (la.getD i 0)), u2, (eN k), (ixp u2 k), (eB (lb.getD k 0)), (eB (gm (la.getD i 0) (lb.getD k 0))), (eB (((pmul la lb i k).getD (i + k) 0) ^^^ (gm (la.getD i 0) (lb.getD k 0)))), (ptr b (i + k)), undef, undef] ?_
   refine wpL.done ?_
   refine then_n ?_
   refine ⟨_, (k + 1), rfl, rfl, ⟨?_, ?_, ?_, ?_⟩, ?_⟩
   ·
    (try dsimp only)
    all_goals (omega)
   ·
    exact o18
   ·
    exact pmul_length la lb _ _
   ·
    (try dsimp only)
    all_goals (rw [← pmul_step (by omega) (by omega)]; exact a23)
   ·
    (try dsimp only)
    all_goals (omega)
  refine wpIn_exit ?_
  refine then_x (then_x (inb_e ?_))
  refine inb_n (then_n ?_)
  refine forget (fun zf24 => ([u1, u2, undef, undef, (Value.slice none 0 0), (sli b 0 (la.length + lb.length) (la.length + lb.length)), (eN i), (eN k), u1, (eN la.length), u2, (eN lb.length), (eN (la.length + lb.length)), (sli b 0 (la.length + lb.length) (la.length + lb.length))] ++ (zs zf24 14 12 ++ (zs z 26 21 ++ [undef, undef])))) (by kernel_rfl) (fun zf24 => ?_)
  refine plain ?_
  refine wI (d_move rfl) ?_
  refine wI (n_add (a := i) (b := 1) rfl rfl (by omega)) ?_
  refine wI (d_assign rfl) ?_
  refine wF ([u1, u2, undef, undef, (Value.slice none 0 0), (sli b 0 (la.length + lb.length) (la.length + lb.length)), (eN (i + 1)), (eN k), u1, (eN la.length), u2, (eN lb.length), (eN (la.length + lb.length)), (sli b 0 (la.length + lb.length) (la.length + lb.length)), (zf24 14), (zf24 15), (zf24 16), (zf24 17), (eN i), (eN (i + 1))] ++ (zs zf24 20 6 ++ (zs z 26 21 ++ [undef, undef]))) ?_
  refine wpL.done ?_
  refine then_n ?_
  refine ⟨_, (i + 1), rfl, rfl, ⟨?_, ?_, ?_, ?_⟩, ?_⟩
  ·
   (try dsimp only)
   all_goals (omega)
  ·
   exact o15
  ·
   exact pmul_length la lb _ _
  ·
   (try dsimp only)
   all_goals (rw [← pmul_next (by omega), show lb.length = k by omega]; exact a13)
  ·
   (try dsimp only)
   all_goals (omega)
 refine wpIn_exit ?_
 refine then_x (then_x (inb_e ?_))
 refine then_n ?_
 refine forget (fun zf25 => (zs zf25 0 5 ++ [(sli b 0 (la.length + lb.length) (la.length + lb.length)), (eN i), (z 7)] ++ (zs zf25 8 41))) (by kernel_rfl) (fun zf25 => ?_)
 refine wpIn_seq ?_
 refine plain ?_
 refine wI (d_move rfl) ?_
 refine wO (d_call (xl := [.tmp 47]) (al := [(sli b 0 (la.length + lb.length) (la.length + lb.length))]) Try.func113 (by kernel_rfl) rfl rfl rfl (ref3Trim_ok (pmul la lb i 0) (sli b 0 (la.length + lb.length) (la.length + lb.length)) _ (Ps.no (arr_seq a13 l_b (Nat.le_refl _))) (by have := pmul_length la lb i 0; first | omega | (simp; done) | (simp; omega)))) ?_
 rintro u28 w26 f29
 obtain ⟨bo30, f29, g31, o27⟩ := f29
 have nq_r_b := nq_new g31 a13.lt
 have q_oW_r := qnew g31 oW.size
 have q_o15_r := qnew g31 o15.size
 replace h1 := h1.newq o27 g31
 replace h2 := h2.newq o27 g31
 replace a13 := a13.step0 o27
 replace oW := oW.tail0 o27
 replace o15 := o15.tail0 o27
 refine wI (d_assign rfl) ?_
 refine wF ([(zf25 0), (zf25 1), (zf25 2), (zf25 3), u28, (sli b 0 (la.length + lb.length) (la.length + lb.length)), (eN i), (z 7)] ++ (zs zf25 8 39 ++ [(sli b 0 (la.length + lb.length) (la.length + lb.length)), u28])) ?_
 refine wpL.done ?_
 refine then_n ?_
 refine wpIn_ret ?_
 refine leave0 (v := u28) (res1 Try.results94 rfl) ?_
 exact ROw.mk_ f29 (by rw [show i = la.length by omega]; exact pmul_done la lb) q_oW_r oW

set_option maxRecDepth 20000 in
set_option maxHeartbeats 1000000 in
theorem div_ok (la lb : List UInt8) (u1 u2 : Value) (W : World) (h1 : Ps No (Seq kB la u1) W) (h2 : Ps No (Seq kB lb u2) W) (g1 : la.length ≤ 1048576) (g2 : lb.length ≤ 1048576) :
    CW Try.prog 63 #[u1, u2] W (Rt (RDiv (quoP la lb) (remP la lb) (isP lb) W)) := by
 have oW : Only No W W := Only.refl _ _
 refine enter (al := [u1, u2]) (k := 74) (l := ([u1, u2] ++ (us 74))) Try.func63 rfl Try.ntmps63 rfl rfl ?_
 have t1 := trimL_len la
 have t2 := trimL_len lb
 refine wpIn_seq ?_
 refine plain ?_
 refine wI (d_assign rfl) ?_
 refine wI (d_assign rfl) ?_
 refine wI (d_assign rfl) ?_
 refine wF ([u1, u2, undef, undef, (Value.slice none 0 0), (Value.slice none 0 0), (Value.bool false)] ++ (us 69)) ?_
 refine wpL.done ?_
 refine then_n ?_
 refine wpIn_seq ?_
 refine plain ?_
 refine wI (d_move rfl) ?_
 refine wO (d_call (xl := [.tmp 11]) (al := [u1]) Try.func88 (by kernel_rfl) rfl rfl rfl (trim_ok la u1 _ (Ps.no h1) (by first | omega | (simp; done) | (simp; omega)))) ?_
 rintro u13 w11 f14
 obtain ⟨bo15, f14, g16, o12⟩ := f14
 have q_oW_r := qnew g16 oW.size
 replace h1 := h1.newq o12 g16
 replace h2 := h2.newq o12 g16
 replace oW := oW.tail0 o12
 refine wI (d_move rfl) ?_
 refine wF ([u1, u2, undef, undef, (Value.slice none 0 0), (Value.slice none 0 0), (Value.bool false), undef, undef, undef, undef, u1, u13, u2] ++ (us 62)) ?_
 refine wO (d_call (xl := [.tmp 13]) (al := [u2]) Try.func88 (by kernel_rfl) rfl rfl rfl (trim_ok lb u2 _ (Ps.no h2) (by first | omega | (simp; done) | (simp; omega)))) ?_
 rintro u19 w17 f20
 replace f20 := f20.ps
 obtain ⟨f20, o18⟩ := f20
 replace f20 := f20.less (Y := (Orq bo15 (Old W.heap.size))) (orq_old f14.lts (old_old oW.size))
 replace h1 := h1.step0 o18
 replace h2 := h2.step0 o18
 replace f14 := f14.step0 o18
 replace oW := oW.tail0 o18
 refine wI (d_assign rfl) ?_
 refine wI (d_assign rfl) ?_
 refine wF ([u1, u19, undef, undef, (Value.slice none 0 0), u13, (Value.bool false), undef, undef, undef, undef, u1, u13, u2, u19] ++ (us 61)) ?_
 refine wpL.done ?_
 refine then_n ?_
 refine wpIn_seq ?_
 refine wpIn_seq ?_
 refine plain ?_
 refine wI (d_move rfl) ?_
 refine wI (d_lenS rfl Try.underlying22 rfl f20) ?_
 refine wI (n_eql (a := ((trimL lb).length)) (b := 0) rfl rfl rfl) ?_
 refine wF ([u1, u19, undef, undef, (Value.slice none 0 0), u13, (Value.bool false), undef, undef, undef, undef, u1, u13, u2, u19, u19, (eN ((trimL lb).length)), (Value.bool (decide (((trimL lb).length) = 0)))] ++ (us 58)) ?_
 refine wpL.done ?_
 refine then_n ?_
 refine forget (fun zf21 => ([(zf21 0), u19, (zf21 2), (zf21 3), (zf21 4), u13, (zf21 6), (zf21 7), undef] ++ (zs zf21 9 8 ++ [(Value.bool (decide (((trimL lb).length) = 0)))] ++ (zs zf21 18 34 ++ [undef, (zf21 53), (zf21 54), (zf21 55), (zf21 56)] ++ (us 14 ++ (zs zf21 71 5)))))) (by kernel_rfl) (fun zf21 => ?_)
 refine cond_if rfl (fun c0 => ?_) (fun c0 => ?_)
 ·
  refine wpIn_seq ?_
  refine plain ?_
  refine wI (d_assign rfl) ?_
  refine wI (d_assign rfl) ?_
  refine wI (d_assign rfl) ?_
  refine wF ([(zf21 0), u19, (zf21 2), (zf21 3), (Value.slice none 0 0), (Value.slice none 0 0), (Value.bool false), (zf21 7), undef] ++ (zs zf21 9 8 ++ [(Value.bool (decide (((trimL lb).length) = 0)))] ++ (zs zf21 18 34 ++ [undef, (zf21 53), (zf21 54), (zf21 55), (zf21 56)] ++ (us 14 ++ (zs zf21 71 5))))) ?_
  refine wpL.done ?_
  refine then_n ?_
  refine wpIn_ret ?_
  refine then_r ?_
  refine leave0 (v := (Value.tuple #[(Value.slice none 0 0), (Value.slice none 0 0), (Value.bool false)])) (res3 Try.results63 rfl rfl rfl) ?_
  exact ⟨_, _, by rw [isP_no (List.eq_nil_of_length_eq_zero c0)], by rw [(div_no (List.eq_nil_of_length_eq_zero c0)).1]; exact seq_nil, by rw [(div_no (List.eq_nil_of_length_eq_zero c0)).2]; exact seq_nil, oW⟩
 refine wpIn_skip ?_
 refine then_n ?_
 refine wpIn_seq ?_
 refine plain ?_
 refine wI (d_move rfl) ?_
 refine wI (d_lenS rfl Try.underlying22 rfl (f14.seq (X := No) (fun _ _ h => h))) ?_
 refine wO (d_make1 (n := (trimL la).length) Try.underlying22 s_ti5 rfl rfl (by omega) (by omega) rfl) ?_
 rintro _ w22 ⟨q, rfl, g23, a24, o25⟩
 replace a24 : Arr 5 q ((List.replicate ((trimL la).length) 0).map eB) w22 := by rw [List.map_replicate]; exact a24
 have l_q : (List.replicate ((trimL la).length) 0 : List UInt8).length = (trimL la).length := by simp
 have nq_r_q : ∀ x, bo15 = some x → ¬ x = q := fun x hx e => by have := f14.lts x hx; omega
 have g_oW_q : W.heap.size ≤ q := Nat.le_trans oW.size g23
 replace h1 := h1.new o25 g23
 replace h2 := h2.new o25 g23
 replace f20 := f20.new o25 g23
 replace f14 := f14.step0 o25
 replace oW := oW.tail0 o25
 refine wF ([(zf21 0), u19, (zf21 2), (zf21 3), (zf21 4), u13, (zf21 6), (zf21 7), undef] ++ (zs zf21 9 8 ++ [(Value.bool (decide (((trimL lb).length) = 0))), u13, (eN ((trimL la).length)), (sli q 0 ((trimL la).length) ((trimL la).length))] ++ (zs zf21 21 31 ++ [undef, (zf21 53), (zf21 54), (zf21 55), (zf21 56)] ++ (us 14 ++ (zs zf21 71 5))))) ?_
 refine wI (d_assign rfl) ?_
 refine wF ([(zf21 0), u19, (zf21 2), (zf21 3), (sli q 0 ((trimL la).length) ((trimL la).length)), u13, (zf21 6), (zf21 7), undef] ++ (zs zf21 9 8 ++ [(Value.bool (decide (((trimL lb).length) = 0))), u13, (eN ((trimL la).length)), (sli q 0 ((trimL la).length) ((trimL la).length))] ++ (zs zf21 21 31 ++ [undef, (zf21 53), (zf21 54), (zf21 55), (zf21 56)] ++ (us 14 ++ (zs zf21 71 5))))) ?_
 refine wpL.done ?_
 have hb : 0 < (trimL lb).length := by omega
 refine then_n ?_
 refine wpIn_seq ?_
 refine plain ?_
 refine wI (d_move rfl) ?_
 refine wI (d_move rfl) ?_
 refine wI (d_lenS rfl Try.underlying22 rfl f20) ?_
 refine wF ([(zf21 0), u19, (zf21 2), (zf21 3), (sli q 0 ((trimL la).length) ((trimL la).length)), u13, (zf21 6), (zf21 7), undef] ++ (zs zf21 9 8 ++ [(Value.bool (decide (((trimL lb).length) = 0))), u13, (eN ((trimL la).length)), (sli q 0 ((trimL la).length) ((trimL la).length)), u19, u19, (eN ((trimL lb).length))] ++ (zs zf21 24 28 ++ [undef, (zf21 53), (zf21 54), (zf21 55), (zf21 56)] ++ (us 14 ++ (zs zf21 71 5))))) ?_
 refine wI (n_sub (a := ((trimL lb).length)) (b := 1) rfl rfl (by omega) (by omega)) ?_
 refine wI (d_ix (i := (((trimL lb).length) - 1)) (xs := (trimL lb)) Try.underlying22 s_ti5 rfl f20 (show _ = Value.int _ ((((trimL lb).length) - 1 : Nat) : Int) from rfl) (by have := trimL_len lb; first | omega | (simp; done) | (simp; omega))) ?_
 refine wI (d_ldx (i := (((trimL lb).length) - 1)) (xs := (trimL lb)) (enc := eB) (v := ((trimL lb).getD (((trimL lb).length) - 1) 0)) ⟨_, Try.underlying5, rfl⟩ rfl f20 (g_at (by have := trimL_len lb; first | omega | (simp; done) | (simp; omega)))) ?_
 refine wF ([(zf21 0), u19, (zf21 2), (zf21 3), (sli q 0 ((trimL la).length) ((trimL la).length)), u13, (zf21 6), (zf21 7), undef] ++ (zs zf21 9 8 ++ [(Value.bool (decide (((trimL lb).length) = 0))), u13, (eN ((trimL la).length)), (sli q 0 ((trimL la).length) ((trimL la).length)), u19, u19, (eN ((trimL lb).length)), (eN (((trimL lb).length) - 1)), (ixp u19 (((trimL lb).length) - 1)), (eB ((trimL lb).getD (((trimL lb).length) - 1) 0))] ++ (zs zf21 27 25 ++ [undef, (zf21 53), (zf21 54), (zf21 55), (zf21 56)] ++ (us 14 ++ (zs zf21 71 5))))) ?_
 refine wO (d_call (xl := [.tmp 26]) (al := [(eB ((trimL lb).getD (((trimL lb).length) - 1) 0))]) Try.func89 (by kernel_rfl) rfl rfl rfl (gfInv_ok ((trimL lb).getD (((trimL lb).length) - 1) 0) _)) ?_
 rintro _ w26 ⟨rfl, o27⟩
 replace h1 := h1.step0 o27
 replace h2 := h2.step0 o27
 replace f20 := f20.step0 o27
 replace a24 := a24.step0 o27
 replace f14 := f14.step0 o27
 replace oW := oW.tail0 o27
 refine wI (d_assign rfl) ?_
 refine wF ([(zf21 0), u19, (zf21 2), (zf21 3), (sli q 0 ((trimL la).length) ((trimL la).length)), u13, (zf21 6), (eB (invB ((trimL lb).getD (((trimL lb).length) - 1) 0))), undef] ++ (zs zf21 9 8 ++ [(Value.bool (decide (((trimL lb).length) = 0))), u13, (eN ((trimL la).length)), (sli q 0 ((trimL la).length) ((trimL la).length)), u19, u19, (eN ((trimL lb).length)), (eN (((trimL lb).length) - 1)), (ixp u19 (((trimL lb).length) - 1)), (eB ((trimL lb).getD (((trimL lb).length) - 1) 0)), (eB (invB ((trimL lb).getD (((trimL lb).length) - 1) 0)))] ++ (zs zf21 28 24 ++ [undef, (zf21 53), (zf21 54), (zf21 55), (zf21 56)] ++ (us 14 ++ (zs zf21 71 5))))) ?_
 refine wpL.done ?_
 have htop : (trimL lb).getD ((trimL lb).length - 1) 0 ≠ 0 := trimL_top hb
 refine then_n ?_
 refine forget (fun zf28 => ([(zf28 0), u19, (zf28 2), (zf28 3), (sli q 0 ((trimL la).length) ((trimL la).length)), u13, (zf28 6), (eB (invB ((trimL lb).getD (((trimL lb).length) - 1) 0))), undef] ++ (zs zf28 9 43 ++ [undef, (zf28 53), (zf28 54), (zf28 55), (zf28 56)] ++ (us 14 ++ (zs zf28 71 5))))) (by kernel_rfl) (fun zf28 => ?_)
 refine wpIn_seq ?_
 refine wpIn_seq ?_
 refine plain ?_
 refine wI (d_move rfl) ?_
 refine wI (d_lenS rfl Try.underlying22 rfl (f14.seq (X := No) (fun _ _ h => h))) ?_
 refine wI (d_move rfl) ?_
 refine wF ([(zf28 0), u19, (zf28 2), (zf28 3), (sli q 0 ((trimL la).length) ((trimL la).length)), u13, (zf28 6), (eB (invB ((trimL lb).getD (((trimL lb).length) - 1) 0))), undef] ++ (zs zf28 9 19 ++ [u13, (eN ((trimL la).length)), u19] ++ (zs zf28 31 21 ++ [undef, (zf28 53), (zf28 54), (zf28 55), (zf28 56)] ++ (us 14 ++ (zs zf28 71 5))))) ?_
 refine wI (d_lenS rfl Try.underlying22 rfl f20) ?_
 refine wI (d_sub (k := .i64) (m := (((trimL la).length : Nat) : Int)) (n := (((trimL lb).length : Nat) : Int)) rfl rfl (r := ((trimL la).length : Int) - ((trimL lb).length : Int)) (IntWalk.i64_in _ (by have := trimL_len la; have := trimL_len lb; omega))) ?_
 refine wI (d_assign rfl) ?_
 refine wF ([(zf28 0), u19, (zf28 2), (zf28 3), (sli q 0 ((trimL la).length) ((trimL la).length)), u13, (zf28 6), (eB (invB ((trimL lb).getD (((trimL lb).length) - 1) 0))), (eI (((trimL la).length : Int) - ((trimL lb).length : Int)))] ++ (zs zf28 9 19 ++ [u13, (eN ((trimL la).length)), u19, (eN ((trimL lb).length)), (eI (((trimL la).length : Int) - ((trimL lb).length : Int)))] ++ (zs zf28 33 19 ++ [undef, (zf28 53), (zf28 54), (zf28 55), (zf28 56)] ++ (us 14 ++ (zs zf28 71 5))))) ?_
 refine wpL.done ?_
 refine then_n ?_
 refine wpIn_block ?_
 refine loop2 (fun (s_ : (Int) × (List UInt8) × (List UInt8)) => match s_ with | ⟨i, ql, rl⟩ => fun (z : Nat → Value) => (([(zf28 0), u19, (zf28 2), (zf28 3), (sli q 0 ((trimL la).length) ((trimL la).length)), u13, (zf28 6), (eB (invB ((trimL lb).getD (((trimL lb).length) - 1) 0))), (eI i), (z 9), (z 10)] ++ (zs zf28 11 17 ++ [u13, (eN ((trimL la).length)), u19, (eN ((trimL lb).length)), (eI (((trimL la).length : Int) - ((trimL lb).length : Int)))] ++ (zs z 33 39 ++ [(zf28 72), (zf28 73), (zf28 74), (zf28 75)]))) : List Value)) (fun (s_ : (Int) × (List UInt8) × (List UInt8)) => match s_ with | ⟨i, ql, rl⟩ => fun (w_ : World) => (i ≤ ((trimL la).length : Int) - ((trimL lb).length : Int)) ∧ (rl.length = (trimL la).length) ∧ (DivInv la (trimL lb) ql rl i) ∧ Only (Or1 q (Orq bo15 No)) w26 w_ ∧ ql.length = (trimL la).length ∧ Arr 5 q (ql.map eB) w_ ∧ Ow 5 1 bo15 u13 (rl).length ((rl).map eB) w_) (fun (s_ : (Int) × (List UInt8) × (List UInt8)) => match s_ with | ⟨i, ql, rl⟩ => (i + 1).toNat) ⟨((trimL la).length : Int) - ((trimL lb).length : Int), List.replicate (trimL la).length 0, trimL la⟩ rfl ?_ ?_
 ·
  refine ⟨?_, ?_, ?_, ?_, ?_, ?_, ?_⟩
  ·
   exact Int.le_refl _
  ·
   exact rfl
  ·
   exact DivInv.init
  ·
   exact Only.refl _ _
  ·
   exact l_q
  ·
   exact a24
  ·
   exact f14
 rintro ⟨i, ql, rl⟩ z w30 ⟨hi, hr, hI, o29, l_q, a24, f14⟩
 (try dsimp only)
 replace h1 := h1.step o29 (or1_mono (orq_mono no_any))
 replace h2 := h2.step o29 (or1_mono (orq_mono no_any))
 replace f20 := f20.step o29 (or1_mono (orq_mono no_any))
 replace oW := oW.tail o29 (tl_new g_oW_q (tl_q q_oW_r (fun _ e => by cases e) tl_no))
 have q_o29_r : Fr bo15 bo15 w26.heap.size := Fr.same
 refine wpIn_seq ?_
 refine wpIn_seq ?_
 refine plain ?_
 refine wI (d_move rfl) ?_
 refine wI (d_geq (k := .i64) (m := i) (n := 0) rfl rfl rfl) ?_
 refine wF ([(zf28 0), u19, (zf28 2), (zf28 3), (sli q 0 ((trimL la).length) ((trimL la).length)), u13, (zf28 6), (eB (invB ((trimL lb).getD (((trimL lb).length) - 1) 0))), (eI i), (z 9), (z 10)] ++ (zs zf28 11 17 ++ [u13, (eN ((trimL la).length)), u19, (eN ((trimL lb).length)), (eI (((trimL la).length : Int) - ((trimL lb).length : Int))), (eI i), (Value.bool (decide (0 ≤ i)))] ++ (zs z 35 37 ++ [(zf28 72), (zf28 73), (zf28 74), (zf28 75)]))) ?_
 refine wpL.done ?_
 refine then_n ?_
 refine cond_if rfl (fun c1 => ?_) (fun c1 => ?_)
 ·
  obtain ⟨n, rfl⟩ := Int.eq_ofNat_of_zero_le c1
  refine wp_eq (l' := ([(zf28 0), u19, (zf28 2), (zf28 3), (sli q 0 ((trimL la).length) ((trimL la).length)), u13, (zf28 6), (eB (invB ((trimL lb).getD (((trimL lb).length) - 1) 0))), (eN n), (z 9), (z 10)] ++ (zs zf28 11 17 ++ [u13, (eN ((trimL la).length)), u19, (eN ((trimL lb).length)), (eI (((trimL la).length : Int) - ((trimL lb).length : Int))), (eN n), (Value.bool (decide (0 ≤ (n : Int))))] ++ (zs z 35 37 ++ [(zf28 72), (zf28 73), (zf28 74), (zf28 75)])))) rfl ?_
  refine wpIn_skip ?_
  refine then_n ?_
  refine wpIn_seq ?_
  refine wpIn_block ?_
  refine wpIn_seq ?_
  refine plain ?_
  refine wI (d_move rfl) ?_
  refine wI (d_move rfl) ?_
  refine wI (d_move rfl) ?_
  refine wF ([(zf28 0), u19, (zf28 2), (zf28 3), (sli q 0 ((trimL la).length) ((trimL la).length)), u13, (zf28 6), (eB (invB ((trimL lb).getD (((trimL lb).length) - 1) 0))), (eN n), (z 9), (z 10)] ++ (zs zf28 11 17 ++ [u13, (eN ((trimL la).length)), u19, (eN ((trimL lb).length)), (eI (((trimL la).length : Int) - ((trimL lb).length : Int))), (eN n), (Value.bool (decide (0 ≤ (n : Int)))), (z 35), (z 36), (sli q 0 ((trimL la).length) ((trimL la).length)), (eN n), u13] ++ (zs z 40 32 ++ [(zf28 72), (zf28 73), (zf28 74), (zf28 75)]))) ?_
  refine wI (d_move rfl) ?_
  refine wI (d_move rfl) ?_
  refine wI (d_lenS rfl Try.underlying22 rfl f20) ?_
  refine wF ([(zf28 0), u19, (zf28 2), (zf28 3), (sli q 0 ((trimL la).length) ((trimL la).length)), u13, (zf28 6), (eB (invB ((trimL lb).getD (((trimL lb).length) - 1) 0))), (eN n), (z 9), (z 10)] ++ (zs zf28 11 17 ++ [u13, (eN ((trimL la).length)), u19, (eN ((trimL lb).length)), (eI (((trimL la).length : Int) - ((trimL lb).length : Int))), (eN n), (Value.bool (decide (0 ≤ (n : Int)))), (z 35), (z 36), (sli q 0 ((trimL la).length) ((trimL la).length)), (eN n), u13, (eN n), u19, (eN ((trimL lb).length))] ++ (zs z 43 29 ++ [(zf28 72), (zf28 73), (zf28 74), (zf28 75)]))) ?_
  refine wI (n_add (a := n) (b := ((trimL lb).length)) rfl rfl (by have := trimL_len la; have := trimL_len lb; omega)) ?_
  refine wI (n_sub (a := (n + ((trimL lb).length))) (b := 1) rfl rfl (by omega) (by omega)) ?_
  refine wI (d_ix (i := ((n + ((trimL lb).length)) - 1)) (xs := rl) Try.underlying22 s_ti5 rfl (f14.seq (X := No) (fun _ _ h => h)) (show _ = Value.int _ (((n + ((trimL lb).length)) - 1 : Nat) : Int) from rfl) (by first | omega | (simp; done) | (simp; omega))) ?_
  refine wF ([(zf28 0), u19, (zf28 2), (zf28 3), (sli q 0 ((trimL la).length) ((trimL la).length)), u13, (zf28 6), (eB (invB ((trimL lb).getD (((trimL lb).length) - 1) 0))), (eN n), (z 9), (z 10)] ++ (zs zf28 11 17 ++ [u13, (eN ((trimL la).length)), u19, (eN ((trimL lb).length)), (eI (((trimL la).length : Int) - ((trimL lb).length : Int))), (eN n), (Value.bool (decide (0 ≤ (n : Int)))), (z 35), (z 36), (sli q 0 ((trimL la).length) ((trimL la).length)), (eN n), u13, (eN n), u19, (eN ((trimL lb).length)), (eN (n + ((trimL lb).length))), (eN ((n + ((trimL lb).length)) - 1)), (ixp u13 ((n + ((trimL lb).length)) - 1))] ++ (zs z 46 26 ++ [(zf28 72), (zf28 73), (zf28 74), (zf28 75)]))) ?_
  refine wI (d_ldx (i := ((n + ((trimL lb).length)) - 1)) (xs := rl) (enc := eB) (v := (rl.getD ((n + ((trimL lb).length)) - 1) 0)) ⟨_, Try.underlying5, rfl⟩ rfl (f14.seq (X := No) (fun _ _ h => h)) (g_at (by first | omega | (simp; done) | (simp; omega)))) ?_
  refine wI (d_move rfl) ?_
  refine wO (d_call (xl := [.tmp 46, .tmp 47]) (al := [(eB (rl.getD ((n + ((trimL lb).length)) - 1) 0)), (eB (invB ((trimL lb).getD (((trimL lb).length) - 1) 0)))]) Try.func90 (by kernel_rfl) rfl rfl rfl (gfMul_ok (rl.getD ((n + ((trimL lb).length)) - 1) 0) (invB ((trimL lb).getD (((trimL lb).length) - 1) 0)) _)) ?_
  rintro _ w31 ⟨rfl, o32⟩
  replace h1 := h1.step0 o32
  replace h2 := h2.step0 o32
  replace f20 := f20.step0 o32
  replace a24 := a24.step0 o32
  replace f14 := f14.step0 o32
  replace oW := oW.tail0 o32
  replace o29 := o29.tail0 o32
  refine wF ([(zf28 0), u19, (zf28 2), (zf28 3), (sli q 0 ((trimL la).length) ((trimL la).length)), u13, (zf28 6), (eB (invB ((trimL lb).getD (((trimL lb).length) - 1) 0))), (eN n), (z 9), (z 10)] ++ (zs zf28 11 17 ++ [u13, (eN ((trimL la).length)), u19, (eN ((trimL lb).length)), (eI (((trimL la).length : Int) - ((trimL lb).length : Int))), (eN n), (Value.bool (decide (0 ≤ (n : Int)))), (z 35), (z 36), (sli q 0 ((trimL la).length) ((trimL la).length)), (eN n), u13, (eN n), u19, (eN ((trimL lb).length)), (eN (n + ((trimL lb).length))), (eN ((n + ((trimL lb).length)) - 1)), (ixp u13 ((n + ((trimL lb).length)) - 1)), (eB (rl.getD ((n + ((trimL lb).length)) - 1) 0)), (eB (invB ((trimL lb).getD (((trimL lb).length) - 1) 0))), (eB (gm (rl.getD ((n + ((trimL lb).length)) - 1) 0) (invB ((trimL lb).getD (((trimL lb).length) - 1) 0))))] ++ (zs z 49 23 ++ [(zf28 72), (zf28 73), (zf28 74), (zf28 75)]))) ?_
  refine wI (d_index1 (n := ((trimL la).length)) (i := n) Try.underlying22 s_ti5 rfl (show _ = Value.int _ ((n : Nat) : Int) from rfl) (by omega)) ?_
  refine wO (d_store (b := q) (i := n) (v := (eB (gm (rl.getD ((n + ((trimL lb).length)) - 1) 0) (invB ((trimL lb).getD (((trimL lb).length) - 1) 0))))) s_ti5 rfl rfl rfl a24 (by rw [List.length_map, l_q]; omega) (m_put ql n (gm (rl.getD ((n + ((trimL lb).length)) - 1) 0) (invB ((trimL lb).getD (((trimL lb).length) - 1) 0))) eB)) ?_
  rintro _ w33 ⟨a34, o35⟩
  replace h1 := h1.stepb o35 in1
  replace h2 := h2.stepb o35 in1
  replace f20 := f20.stepb o35 in1
  replace f14 := f14.step o35 (fun x hx e => nq_r_q x hx e)
  replace oW := oW.tailb o35 g_oW_q
  replace o29 := o29.tail o35 (fun k _ e => by have : k = q := e; rw [this]; exact in1)
  replace l_q : (ql.set n (gm (rl.getD ((n + ((trimL lb).length)) - 1) 0) (invB ((trimL lb).getD (((trimL lb).length) - 1) 0))) : List UInt8).length = (trimL la).length := (List.length_set ..).trans l_q
  refine wF ([(zf28 0), u19, (zf28 2), (zf28 3), (sli q 0 ((trimL la).length) ((trimL la).length)), u13, (zf28 6), (eB (invB ((trimL lb).getD (((trimL lb).length) - 1) 0))), (eN n), (z 9), (z 10)] ++ (zs zf28 11 17 ++ [u13, (eN ((trimL la).length)), u19, (eN ((trimL lb).length)), (eI (((trimL la).length : Int) - ((trimL lb).length : Int))), (eN n), (Value.bool (decide (0 ≤ (n : Int)))), (z 35), (z 36), (sli q 0 ((trimL la).length) ((trimL la).length)), (eN n), u13, (eN n), u19, (eN ((trimL lb).length)), (eN (n + ((trimL lb).length))), (eN ((n + ((trimL lb).length)) - 1)), (ixp u13 ((n + ((trimL lb).length)) - 1)), (eB (rl.getD ((n + ((trimL lb).length)) - 1) 0)), (eB (invB ((trimL lb).getD (((trimL lb).length) - 1) 0))), (eB (gm (rl.getD ((n + ((trimL lb).length)) - 1) 0) (invB ((trimL lb).getD (((trimL lb).length) - 1) 0)))), (ptr q n)] ++ (zs z 50 22 ++ [(zf28 72), (zf28 73), (zf28 74), (zf28 75)]))) ?_
  refine wpL.done ?_
  have hn : n < ql.length := by have := l_q; rw [List.length_set] at this; omega
  refine then_n ?_
  refine forget (fun zf36 => ([(zf28 0), u19, (zf28 2), (zf28 3), (sli q 0 ((trimL la).length) ((trimL la).length)), u13, (zf28 6), (eB (invB ((trimL lb).getD (((trimL lb).length) - 1) 0))), (eN n), (zf36 9), (zf36 10)] ++ (zs zf28 11 17 ++ [u13, (eN ((trimL la).length)), u19, (eN ((trimL lb).length)), (eI (((trimL la).length : Int) - ((trimL lb).length : Int)))] ++ (zs zf36 33 19 ++ [(z 52), (zf36 53), (zf36 54), (zf36 55), (zf36 56)] ++ (zs z 57 14 ++ [(zf36 71), (zf28 72), (zf28 73), (zf28 74), (zf28 75)]))))) (by kernel_rfl) (fun zf36 => ?_)
  refine wpIn_seq ?_
  refine plain ?_
  refine wI (d_move rfl) ?_
  refine wI (d_lenS rfl Try.underlying22 rfl f20) ?_
  refine wI (d_move rfl) ?_
  refine wF ([(zf28 0), u19, (zf28 2), (zf28 3), (sli q 0 ((trimL la).length) ((trimL la).length)), u13, (zf28 6), (eB (invB ((trimL lb).getD (((trimL lb).length) - 1) 0))), (eN n), (zf36 9), (zf36 10)] ++ (zs zf28 11 17 ++ [u13, (eN ((trimL la).length)), u19, (eN ((trimL lb).length)), (eI (((trimL la).length : Int) - ((trimL lb).length : Int)))] ++ (zs zf36 33 17 ++ [u19, (eN ((trimL lb).length)), (eN 0), (zf36 53), (zf36 54), (zf36 55), (zf36 56)] ++ (zs z 57 14 ++ [(zf36 71), (zf28 72), (zf28 73), (zf28 74), (zf28 75)])))) ?_
  refine wpL.done ?_
  refine then_n ?_
  refine wpIn_block ?_
  refine loop2 (fun (k : (Nat)) => fun (z : Nat → Value) => (([(zf28 0), u19, (zf28 2), (zf28 3), (sli q 0 ((trimL la).length) ((trimL la).length)), u13, (zf28 6), (eB (invB ((trimL lb).getD (((trimL lb).length) - 1) 0))), (eN n), (z 9), (z 10)] ++ (zs zf28 11 17 ++ [u13, (eN ((trimL la).length)), u19, (eN ((trimL lb).length)), (eI (((trimL la).length : Int) - ((trimL lb).length : Int)))] ++ (zs zf36 33 17 ++ [u19, (eN ((trimL lb).length)), (eN k)] ++ (zs z 53 19 ++ [(zf28 72), (zf28 73), (zf28 74), (zf28 75)])))) : List Value)) (fun (k : (Nat)) => fun (w_ : World) => (k ≤ (trimL lb).length) ∧ Only (Or1 q (Orq bo15 No)) w33 w_ ∧ Arr 5 q ((ql.set n (gm (rl.getD ((n + ((trimL lb).length)) - 1) 0) (invB ((trimL lb).getD (((trimL lb).length) - 1) 0)))).map eB) w_ ∧ Ow 5 1 bo15 u13 (subl rl (trimL lb) (gm (rl.getD (n + (trimL lb).length - 1) 0) (invB ((trimL lb).getD ((trimL lb).length - 1) 0))) n k).length ((subl rl (trimL lb) (gm (rl.getD (n + (trimL lb).length - 1) 0) (invB ((trimL lb).getD ((trimL lb).length - 1) 0))) n k).map eB) w_) (fun (k : (Nat)) => (trimL lb).length - k) 0 rfl ?_ ?_
  ·
   refine ⟨?_, ?_, ?_, ?_⟩
   ·
    exact Nat.zero_le _
   ·
    exact Only.refl _ _
   ·
    exact a34
   ·
    (try dsimp only)
    all_goals (rw [subl_zero]; exact f14)
  rintro k z w38 ⟨hk, o37, a34, f14⟩
  (try dsimp only)
  replace h1 := h1.step o37 (or1_mono (orq_mono no_any))
  replace h2 := h2.step o37 (or1_mono (orq_mono no_any))
  replace f20 := f20.step o37 (or1_mono (orq_mono no_any))
  replace oW := oW.tail o37 (tl_new g_oW_q (tl_q q_oW_r (fun _ e => by cases e) tl_no))
  replace o29 := o29.tail o37 (tl_in in1 (tl_q q_o29_r (fun k e => (.inr (.inl e))) tl_no))
  have q_o37_r : Fr bo15 bo15 w33.heap.size := Fr.same
  refine wpIn_seq ?_
  refine plain ?_
  refine wI (n_lss (a := k) (b := ((trimL lb).length)) rfl rfl rfl) ?_
  refine wF ([(zf28 0), u19, (zf28 2), (zf28 3), (sli q 0 ((trimL la).length) ((trimL la).length)), u13, (zf28 6), (eB (invB ((trimL lb).getD (((trimL lb).length) - 1) 0))), (eN n), (z 9), (z 10)] ++ (zs zf28 11 17 ++ [u13, (eN ((trimL la).length)), u19, (eN ((trimL lb).length)), (eI (((trimL la).length : Int) - ((trimL lb).length : Int)))] ++ (zs zf36 33 17 ++ [u19, (eN ((trimL lb).length)), (eN k), (Value.bool (decide (k < ((trimL lb).length))))] ++ (zs z 54 18 ++ [(zf28 72), (zf28 73), (zf28 74), (zf28 75)])))) ?_
  refine wpL.done ?_
  refine then_n ?_
  refine wpIn_seq ?_
  refine cond_if rfl (fun c2 => ?_) (fun c2 => ?_)
  ·
   refine wpIn_skip ?_
   refine then_n ?_
   refine wpIn_seq ?_
   refine wpIn_block ?_
   refine wpIn_seq ?_
   refine plain ?_
   refine wI (d_move rfl) ?_
   refine wI (d_ix (i := k) (xs := (trimL lb)) Try.underlying22 s_ti5 rfl f20 (show _ = Value.int _ ((k : Nat) : Int) from rfl) (by have := trimL_len lb; first | omega | (simp; done) | (simp; omega))) ?_
   refine wI (d_ldx (i := k) (xs := (trimL lb)) (enc := eB) (v := ((trimL lb).getD k 0)) ⟨_, Try.underlying5, rfl⟩ rfl f20 (g_at (by have := trimL_len lb; first | omega | (simp; done) | (simp; omega)))) ?_
   refine wF ([(zf28 0), u19, (zf28 2), (zf28 3), (sli q 0 ((trimL la).length) ((trimL la).length)), u13, (zf28 6), (eB (invB ((trimL lb).getD (((trimL lb).length) - 1) 0))), (eN n), (z 9), (z 10)] ++ (zs zf28 11 17 ++ [u13, (eN ((trimL la).length)), u19, (eN ((trimL lb).length)), (eI (((trimL la).length : Int) - ((trimL lb).length : Int)))] ++ (zs zf36 33 17 ++ [u19, (eN ((trimL lb).length)), (eN k), (Value.bool (decide (k < ((trimL lb).length)))), (eN k), (ixp u19 k), (eB ((trimL lb).getD k 0))] ++ (zs z 57 15 ++ [(zf28 72), (zf28 73), (zf28 74), (zf28 75)])))) ?_
   refine wI (d_assign rfl) ?_
   refine wI (d_assign rfl) ?_
   refine wF ([(zf28 0), u19, (zf28 2), (zf28 3), (sli q 0 ((trimL la).length) ((trimL la).length)), u13, (zf28 6), (eB (invB ((trimL lb).getD (((trimL lb).length) - 1) 0))), (eN n), (eN k), (eB ((trimL lb).getD k 0))] ++ (zs zf28 11 17 ++ [u13, (eN ((trimL la).length)), u19, (eN ((trimL lb).length)), (eI (((trimL la).length : Int) - ((trimL lb).length : Int)))] ++ (zs zf36 33 17 ++ [u19, (eN ((trimL lb).length)), (eN k), (Value.bool (decide (k < ((trimL lb).length)))), (eN k), (ixp u19 k), (eB ((trimL lb).getD k 0))] ++ (zs z 57 15 ++ [(zf28 72), (zf28 73), (zf28 74), (zf28 75)])))) ?_
   refine wpL.done ?_
   refine then_n ?_
   refine drawn_last (O := (Isq bo15)) (m := 14) (R := fun w_ => Ow 5 1 bo15 u13 ((subl rl (trimL lb) (gm (rl.getD (n + (trimL lb).length - 1) 0) (invB ((trimL lb).getD ((trimL lb).length - 1) 0))) n k).set (n + k) (((subl rl (trimL lb) (gm (rl.getD (n + (trimL lb).length - 1) 0) (invB ((trimL lb).getD ((trimL lb).length - 1) 0))) n k).getD (n + k) 0) ^^^ (gm ((ql.set n (gm (rl.getD ((n + ((trimL lb).length)) - 1) 0) (invB ((trimL lb).getD (((trimL lb).length) - 1) 0)))).getD n 0) ((trimL lb).getD k 0)))).length (((subl rl (trimL lb) (gm (rl.getD (n + (trimL lb).length - 1) 0) (invB ((trimL lb).getD ((trimL lb).length - 1) 0))) n k).set (n + k) (((subl rl (trimL lb) (gm (rl.getD (n + (trimL lb).length - 1) 0) (invB ((trimL lb).getD ((trimL lb).length - 1) 0))) n k).getD (n + k) 0) ^^^ (gm ((ql.set n (gm (rl.getD ((n + ((trimL lb).length)) - 1) 0) (invB ((trimL lb).getD (((trimL lb).length) - 1) 0)))).getD n 0) ((trimL lb).getD k 0)))).map eB) w_) [0, 0, 0, 6, 15, 31, 0, 0, 192, 448, 0, 1984, 4095, 8191, 16383] [(0, 57), (1, 58), (2, 59), (3, 60), (4, 61), (5, 62), (6, 63), (7, 64), (8, 65), (9, 66), (10, 67), (11, 68), (12, 69), (13, 70)] [u13, (eN n), (eN k), (eN (n + k)), (ixp u13 (n + k)), (eB ((subl rl (trimL lb) (gm (rl.getD (n + (trimL lb).length - 1) 0) (invB ((trimL lb).getD ((trimL lb).length - 1) 0))) n k).getD (n + k) 0)), (sli q 0 ((trimL la).length) ((trimL la).length)), (eN n), (ptr q n), (eB ((ql.set n (gm (rl.getD ((n + ((trimL lb).length)) - 1) 0) (invB ((trimL lb).getD (((trimL lb).length) - 1) 0)))).getD n 0)), (eB ((trimL lb).getD k 0)), (eB (gm ((ql.set n (gm (rl.getD ((n + ((trimL lb).length)) - 1) 0) (invB ((trimL lb).getD (((trimL lb).length) - 1) 0)))).getD n 0) ((trimL lb).getD k 0))), (eB (((subl rl (trimL lb) (gm (rl.getD (n + (trimL lb).length - 1) 0) (invB ((trimL lb).getD ((trimL lb).length - 1) 0))) n k).getD (n + k) 0) ^^^ (gm ((ql.set n (gm (rl.getD ((n + ((trimL lb).length)) - 1) 0) (invB ((trimL lb).getD (((trimL lb).length) - 1) 0)))).getD n 0) ((trimL lb).getD k 0)))), (ixp u13 (n + k))] ([(zf28 0), u19, (zf28 2), (zf28 3), (sli q 0 ((trimL la).length) ((trimL la).length)), u13, (zf28 6), (eB (invB ((trimL lb).getD (((trimL lb).length) - 1) 0))), (eN n), (eN k), (eB ((trimL lb).getD k 0))] ++ (zs zf28 11 17 ++ [u13, (eN ((trimL la).length)), u19, (eN ((trimL lb).length)), (eI (((trimL la).length : Int) - ((trimL lb).length : Int)))] ++ (zs zf36 33 17 ++ [u19, (eN ((trimL lb).length)), (eN k), (Value.bool (decide (k < ((trimL lb).length)))), (eN k), (ixp u19 k), (eB ((trimL lb).getD k 0)), u13, (eN n), (eN k), (eN (n + k)), (ixp u13 (n + k)), (eB ((subl rl (trimL lb) (gm (rl.getD (n + (trimL lb).length - 1) 0) (invB ((trimL lb).getD ((trimL lb).length - 1) 0))) n k).getD (n + k) 0)), (sli q 0 ((trimL la).length) ((trimL la).length)), (eN n), (ptr q n), (eB ((ql.set n (gm (rl.getD ((n + ((trimL lb).length)) - 1) 0) (invB ((trimL lb).getD (((trimL lb).length) - 1) 0)))).getD n 0)), (eB ((trimL lb).getD k 0)), (eB (gm ((ql.set n (gm (rl.getD ((n + ((trimL lb).length)) - 1) 0) (invB ((trimL lb).getD (((trimL lb).length) - 1) 0)))).getD n 0) ((trimL lb).getD k 0))), (eB (((subl rl (trimL lb) (gm (rl.getD (n + (trimL lb).length - 1) 0) (invB ((trimL lb).getD ((trimL lb).length - 1) 0))) n k).getD (n + k) 0) ^^^ (gm ((ql.set n (gm (rl.getD ((n + ((trimL lb).length)) - 1) 0) (invB ((trimL lb).getD (((trimL lb).length) - 1) 0)))).getD n 0) ((trimL lb).getD k 0)))), (ixp u13 (n + k)), (z 71), (zf28 72), (zf28 73), (zf28 74), (zf28 75)]))) s_mx (by kernel_rfl) (by kernel_rfl) rfl rfl (by decide) (by kernel_rfl) (by kernel_rfl) ?_ (fun _ _ h_ ho_ => h_.step0 ho_) ⟨_, rfl, rfl, fun w_ hO_ => gd rfl ((d_stx (i := (n + k)) (xs := (subl rl (trimL lb) (gm (rl.getD (n + (trimL lb).length - 1) 0) (invB ((trimL lb).getD ((trimL lb).length - 1) 0))) n k)) (enc := eB) (v := (((subl rl (trimL lb) (gm (rl.getD (n + (trimL lb).length - 1) 0) (invB ((trimL lb).getD ((trimL lb).length - 1) 0))) n k).getD (n + k) 0) ^^^ (gm ((ql.set n (gm (rl.getD ((n + ((trimL lb).length)) - 1) 0) (invB ((trimL lb).getD (((trimL lb).length) - 1) 0)))).getD n 0) ((trimL lb).getD k 0)))) s_ti5 rfl rfl rfl (f14.step0 hO_) (by have := subl_length rl (trimL lb) (gm (rl.getD (n + (trimL lb).length - 1) 0) (invB ((trimL lb).getD ((trimL lb).length - 1) 0))) n k; have := trimL_len lb; first | omega | (simp; done) | (simp; omega)) rfl).mono fun u_ w2_ h_ => ⟨h_.2, h_.1⟩)⟩ ?_
   ·
    intro w_ hO_
    refine AllG.cons (gi rfl (d_move rfl)) ?_
    refine AllG.cons (gi rfl (d_move rfl)) ?_
    refine AllG.cons (gi rfl (d_move rfl)) ?_
    refine AllG.cons (gi rfl (n_add (a := n) (b := k) rfl rfl (by omega))) ?_
    refine AllG.cons (gi rfl (d_ix (i := (n + k)) (xs := (subl rl (trimL lb) (gm (rl.getD (n + (trimL lb).length - 1) 0) (invB ((trimL lb).getD ((trimL lb).length - 1) 0))) n k)) Try.underlying22 s_ti5 rfl ((f14.step0 hO_).seq (X := No) (fun _ _ h => h)) (show _ = Value.int _ ((n + k : Nat) : Int) from rfl) (by have := subl_length rl (trimL lb) (gm (rl.getD (n + (trimL lb).length - 1) 0) (invB ((trimL lb).getD ((trimL lb).length - 1) 0))) n k; have := trimL_len lb; first | omega | (simp; done) | (simp; omega)))) ?_
    refine AllG.cons (gi rfl (d_ldx (i := (n + k)) (xs := (subl rl (trimL lb) (gm (rl.getD (n + (trimL lb).length - 1) 0) (invB ((trimL lb).getD ((trimL lb).length - 1) 0))) n k)) (enc := eB) (v := ((subl rl (trimL lb) (gm (rl.getD (n + (trimL lb).length - 1) 0) (invB ((trimL lb).getD ((trimL lb).length - 1) 0))) n k).getD (n + k) 0)) ⟨_, Try.underlying5, rfl⟩ rfl ((f14.step0 hO_).seq (X := No) (fun _ _ h => h)) (g_at (by have := subl_length rl (trimL lb) (gm (rl.getD (n + (trimL lb).length - 1) 0) (invB ((trimL lb).getD ((trimL lb).length - 1) 0))) n k; have := trimL_len lb; first | omega | (simp; done) | (simp; omega))))) ?_
    refine AllG.cons (gi rfl (d_move rfl)) ?_
    refine AllG.cons (gi rfl (d_move rfl)) ?_
    refine AllG.cons (gi rfl (d_index1 (n := ((trimL la).length)) (i := n) Try.underlying22 s_ti5 rfl (show _ = Value.int _ ((n : Nat) : Int) from rfl) (by omega))) ?_
    refine AllG.cons (gi rfl (d_load ⟨_, Try.underlying5, rfl⟩ rfl (a34.step0 hO_) (m_at (d := 0) (by rw [l_q]; omega)))) ?_
    refine AllG.cons (gi rfl (d_move rfl)) ?_
    refine AllG.cons (gc rfl (d_call (xl := [.tmp 66, .tmp 67]) (al := [(eB ((ql.set n (gm (rl.getD ((n + ((trimL lb).length)) - 1) 0) (invB ((trimL lb).getD (((trimL lb).length) - 1) 0)))).getD n 0)), (eB ((trimL lb).getD k 0))]) Try.func90 (by kernel_rfl) rfl rfl rfl (gfMul_ok ((ql.set n (gm (rl.getD ((n + ((trimL lb).length)) - 1) 0) (invB ((trimL lb).getD (((trimL lb).length) - 1) 0)))).getD n 0) ((trimL lb).getD k 0) _))) ?_
    refine AllG.cons (gi rfl (b_xor (c := ((subl rl (trimL lb) (gm (rl.getD (n + (trimL lb).length - 1) 0) (invB ((trimL lb).getD ((trimL lb).length - 1) 0))) n k).getD (n + k) 0)) (e := (gm ((ql.set n (gm (rl.getD ((n + ((trimL lb).length)) - 1) 0) (invB ((trimL lb).getD (((trimL lb).length) - 1) 0)))).getD n 0) ((trimL lb).getD k 0))) rfl rfl)) ?_
    refine AllG.cons (gi rfl (d_ix (i := (n + k)) (xs := (subl rl (trimL lb) (gm (rl.getD (n + (trimL lb).length - 1) 0) (invB ((trimL lb).getD ((trimL lb).length - 1) 0))) n k)) Try.underlying22 s_ti5 rfl ((f14.step0 hO_).seq (X := No) (fun _ _ h => h)) (show _ = Value.int _ ((n + k : Nat) : Int) from rfl) (by have := subl_length rl (trimL lb) (gm (rl.getD (n + (trimL lb).length - 1) 0) (invB ((trimL lb).getD ((trimL lb).length - 1) 0))) n k; have := trimL_len lb; first | omega | (simp; done) | (simp; omega)))) ?_
    exact AllG.nil
   intro w39 o40 a41
   replace h1 := h1.gr o40 (fun k e => (.inr (.inl e))) (xx_or1 (xx_re Fr.same xx_id))
   replace h2 := h2.gr o40 (fun k e => (.inr (.inl e))) (xx_or1 (xx_re Fr.same xx_id))
   replace f20 := f20.gr o40 (fun k e => (.inr (.inl e))) (xx_or1 (xx_re Fr.same xx_id))
   have nq2 := nqs nq_r_q Fr.same a34.lt
   replace a34 := a34.step o40 (fun e => nq_r_q _ e rfl)
   replace nq_r_q := nq2
   clear nq2
   have tq := oW.size
   replace oW := oW.tailr o40 q_oW_r (fun _ e => by cases e)
   replace q_oW_r := qtr Fr.same q_oW_r tq
   clear tq
   have tq := o29.size
   replace o29 := o29.tailr o40 q_o29_r (fun k e => (.inr (.inl e)))
   replace q_o29_r := qtr Fr.same q_o29_r tq
   clear tq
   have tq := o37.size
   replace o37 := o37.tailr o40 q_o37_r (fun k e => (.inr (.inl e)))
   replace q_o37_r := qtr Fr.same q_o37_r tq
   clear tq
   refine inb_n (then_n ?_)
   refine plain ?_
   refine wI (n_add (a := k) (b := 1) rfl rfl (by omega)) ?_
   refine wI (d_move rfl) ?_
   refine wF ([(zf28 0), u19, (zf28 2), (zf28 3), (sli q 0 ((trimL la).length) ((trimL la).length)), u13, (zf28 6), (eB (invB ((trimL lb).getD (((trimL lb).length) - 1) 0))), (eN n), (eN k), (eB ((trimL lb).getD k 0))] ++ (zs zf28 11 17 ++ [u13, (eN ((trimL la).length)), u19, (eN ((trimL lb).length)), (eI (((trimL la).length : Int) - ((trimL lb).length : Int)))] ++ (zs zf36 33 17 ++ [u19, (eN ((trimL lb).length)), (eN (k + 1)), (Value.bool (decide (k < ((trimL lb).length)))), (eN k), (ixp u19 k), (eB ((trimL lb).getD k 0)), u13, (eN n), (eN k), (eN (n + k)), (ixp u13 (n + k)), (eB ((subl rl (trimL lb) (gm (rl.getD (n + (trimL lb).length - 1) 0) (invB ((trimL lb).getD ((trimL lb).length - 1) 0))) n k).getD (n + k) 0)), (sli q 0 ((trimL la).length) ((trimL la).length)), (eN n), (ptr q n), (eB ((ql.set n (gm (rl.getD ((n + ((trimL lb).length)) - 1) 0) (invB ((trimL lb).getD (((trimL lb).length) - 1) 0)))).getD n 0)), (eB ((trimL lb).getD k 0)), (eB (gm ((ql.set n (gm (rl.getD ((n + ((trimL lb).length)) - 1) 0) (invB ((trimL lb).getD (((trimL lb).length) - 1) 0)))).getD n 0) ((trimL lb).getD k 0))), (eB (((subl rl (trimL lb) (gm (rl.getD (n + (trimL lb).length - 1) 0) (invB ((trimL lb).getD ((trimL lb).length - 1) 0))) n k).getD (n + k) 0) ^^^ (gm ((ql.set n (gm (rl.getD ((n + ((trimL lb).length)) - 1) 0) (invB ((trimL lb).getD (((trimL lb).length) - 1) 0)))).getD n 0) ((trimL lb).getD k 0)))), (ixp u13 (n + k)), (eN (k + 1)), (zf28 72), (zf28 73), (zf28 74), (zf28 75)]))) ?_
   refine wpL.done ?_
   refine then_n ?_
   rw [getD_set_self hn] at a41
   refine ⟨_, (k + 1), rfl, rfl, ⟨?_, ?_, ?_, ?_⟩, ?_⟩
   ·
    (try dsimp only)
    all_goals (omega)
   ·
    exact o37
   ·
    exact a34
   ·
    (try dsimp only)
    all_goals (rw [← subl_step (by omega)]; exact a41)
   ·
    (try dsimp only)
    all_goals (omega)
  refine wpIn_exit ?_
  refine then_x (then_x (inb_e ?_))
  refine inb_n (then_n ?_)
  refine plain ?_
  refine wI (d_move rfl) ?_
  refine wI (d_sub (k := .i64) (m := ((n : Nat) : Int)) (n := 1) rfl rfl (r := (n : Int) - 1) (IntWalk.i64_in _ (by have := trimL_len la; omega))) ?_
  refine wI (d_assign rfl) ?_
  refine wF ([(zf28 0), u19, (zf28 2), (zf28 3), (sli q 0 ((trimL la).length) ((trimL la).length)), u13, (zf28 6), (eB (invB ((trimL lb).getD (((trimL lb).length) - 1) 0))), (eI ((n : Int) - 1)), (z 9), (z 10)] ++ (zs zf28 11 17 ++ [u13, (eN ((trimL la).length)), u19, (eN ((trimL lb).length)), (eI (((trimL la).length : Int) - ((trimL lb).length : Int))), (zf36 33), (zf36 34), (eN n), (eI ((n : Int) - 1))] ++ (zs zf36 37 13 ++ [u19, (eN ((trimL lb).length)), (eN k), (Value.bool (decide (k < ((trimL lb).length))))] ++ (zs z 54 18 ++ [(zf28 72), (zf28 73), (zf28 74), (zf28 75)])))) ?_
  refine wpL.done ?_
  refine then_n ?_
  obtain rfl : k = (trimL lb).length := by omega
  refine ⟨_, ⟨(n : Int) - 1, ql.set n (gm (rl.getD (n + (trimL lb).length - 1) 0) (invB ((trimL lb).getD ((trimL lb).length - 1) 0))), subl rl (trimL lb) (gm (rl.getD (n + (trimL lb).length - 1) 0) (invB ((trimL lb).getD ((trimL lb).length - 1) 0))) n (trimL lb).length⟩, rfl, rfl, ⟨?_, ?_, ?_, ?_, ?_, ?_, ?_⟩, ?_⟩
  ·
   (try dsimp only)
   all_goals (omega)
  ·
   exact (subl_length ..).trans hr
  ·
   exact DivInv.step hI hn (by omega) hb htop rfl
  ·
   exact o29
  ·
   (try dsimp only)
   all_goals (simpa using l_q)
  ·
   exact a34
  ·
   exact f14
  ·
   (try dsimp only)
   all_goals (omega)
 refine wpIn_exit ?_
 refine then_x (then_x (inb_e ?_))
 refine then_n ?_
 refine forget (fun zf42 => ([(zf42 0), (zf42 1), (zf42 2), (zf42 3), (sli q 0 ((trimL la).length) ((trimL la).length)), u13, (zf42 6), (zf42 7), (eI i)] ++ (zs zf42 9 43 ++ [(z 52)] ++ (zs zf42 53 23)))) (by kernel_rfl) (fun zf42 => ?_)
 refine wpIn_seq ?_
 refine plain ?_
 refine wI (d_move rfl) ?_
 refine wO (d_call (xl := [.tmp 72]) (al := [(sli q 0 ((trimL la).length) ((trimL la).length))]) Try.func88 (by kernel_rfl) rfl rfl rfl (trim_ok ql (sli q 0 ((trimL la).length) ((trimL la).length)) _ (Ps.no (arr_seq a24 l_q (Nat.le_refl _))) (by first | omega | (simp; done) | (simp; omega)))) ?_
 rintro u45 w43 f46
 replace f46 := f46.ps
 obtain ⟨f46, o44⟩ := f46
 replace f46 := f46.less (Y := (Or1 q (Orq bo15 (Old W.heap.size)))) (or1_old a24.lt (orq_old f14.lts (old_old oW.size)))
 replace h1 := h1.step0 o44
 replace h2 := h2.step0 o44
 replace f20 := f20.step0 o44
 replace a24 := a24.step0 o44
 replace f14 := f14.step0 o44
 replace oW := oW.tail0 o44
 replace o29 := o29.tail0 o44
 refine wI (d_move rfl) ?_
 refine wF ([(zf42 0), (zf42 1), (zf42 2), (zf42 3), (sli q 0 ((trimL la).length) ((trimL la).length)), u13, (zf42 6), (zf42 7), (eI i)] ++ (zs zf42 9 43 ++ [(z 52)] ++ (zs zf42 53 19 ++ [(sli q 0 ((trimL la).length) ((trimL la).length)), u45, u13, (zf42 75)]))) ?_
 refine wO (d_call (xl := [.tmp 74]) (al := [u13]) Try.func88 (by kernel_rfl) rfl rfl rfl (trim_ok rl u13 _ (Ps.no (f14.seq (X := No) (fun _ _ h => h))) (by first | omega | (simp; done) | (simp; omega)))) ?_
 rintro u49 w47 f50
 replace f50 := f50.ps
 obtain ⟨f50, o48⟩ := f50
 replace f50 := f50.less (Y := (Or1 q (Orq bo15 (Old W.heap.size)))) (or1_old a24.lt (orq_old f14.lts (old_old oW.size)))
 replace h1 := h1.step0 o48
 replace h2 := h2.step0 o48
 replace f20 := f20.step0 o48
 replace f46 := f46.step0 o48
 replace a24 := a24.step0 o48
 replace f14 := f14.step0 o48
 replace oW := oW.tail0 o48
 replace o29 := o29.tail0 o48
 refine wI (d_assign rfl) ?_
 refine wI (d_assign rfl) ?_
 refine wF ([(zf42 0), (zf42 1), (zf42 2), (zf42 3), u45, u49, (zf42 6), (zf42 7), (eI i)] ++ (zs zf42 9 43 ++ [(z 52)] ++ (zs zf42 53 19 ++ [(sli q 0 ((trimL la).length) ((trimL la).length)), u45, u13, u49]))) ?_
 refine wI (d_assign rfl) ?_
 refine wF ([(zf42 0), (zf42 1), (zf42 2), (zf42 3), u45, u49, (Value.bool true), (zf42 7), (eI i)] ++ (zs zf42 9 43 ++ [(z 52)] ++ (zs zf42 53 19 ++ [(sli q 0 ((trimL la).length) ((trimL la).length)), u45, u13, u49]))) ?_
 refine wpL.done ?_
 refine then_n ?_
 refine wpIn_ret ?_
 refine leave0 (v := (Value.tuple #[u45, u49, (Value.bool true)])) (res3 Try.results63 rfl rfl rfl) ?_
 have hd := div_is (DivInv.done hI (by omega) hb)
 exact ⟨_, _, by rw [isP_yes (fun e => c0 (by rw [e]; rfl))], by rw [hd.1]; exact (f46.less (xx_skip (xx_skip xx_id))), by rw [hd.2]; exact (f50.less (xx_skip (xx_skip xx_id))), oW⟩

set_option maxRecDepth 20000 in
set_option maxHeartbeats 1000000 in
theorem doubled_ok (n : Nat) (W : World) :
    CW Try.prog 111 #[(eN n)] W (Rt (fun u w => ∃ b, u = .func (.func 120) #[] #[ptr b 0] ∧ W.heap.size ≤ b ∧ Arr 3 b [eN n] w ∧ Only No W w)) := by
 have oW : Only No W W := Only.refl _ _
 refine enter (al := [(eN n)]) (k := 3) (l := [(eN n), undef, undef, undef]) Try.func111 rfl Try.ntmps111 rfl rfl ?_
 refine wpIn_seq ?_
 refine plain ?_
 refine wO (d_box rfl rfl) ?_
 rintro _ w11 ⟨b, rfl, g12, a13, o14⟩
 have g_oW_b : W.heap.size ≤ b := Nat.le_trans oW.size g12
 replace oW := oW.tail0 o14
 refine wI (d_assign rfl) ?_
 refine wF [(eN n), (ptr b 0), .nilFunc, undef] ?_
 refine wpL.done ?_
 refine then_n ?_
 refine wpIn_seq ?_
 refine plain ?_
 refine wI (d_funcL (yl := [.tmp 1]) (ys := [(ptr b 0)]) rfl) ?_
 refine wI (d_assign rfl) ?_
 refine wF [(eN n), (ptr b 0), (Value.func (.func 120) #[] #[(ptr b 0)]), (Value.func (.func 120) #[] #[(ptr b 0)])] ?_
 refine wpL.done ?_
 refine then_n ?_
 refine wpIn_ret ?_
 refine leave0 (v := (Value.func (.func 120) #[] #[(ptr b 0)])) (res1 Try.results111 rfl) ?_
 exact ⟨b, rfl, g_oW_b, a13, oW⟩

set_option maxRecDepth 20000 in
set_option maxHeartbeats 1000000 in
theorem doubled1_ok {O : Nat → Prop} {w0 : World} (n : Nat) (hn : n < 255) (b l : Nat) (J Jx : List Nat → World → Prop) (W : World) (hb : Arr 3 b [eN n] W) (kb : Kp O w0.heap.size b) (hy : ∀ pre x, pre ++ [x] <+: orbit n → ∀ W1, J pre W1 → YieldAt Fence.wide 0 Try.prog l #[eN x] W1 fun e W' => ∃ u, e = .returned u ∧ YR J Jx (Kp O w0.heap.size) (pre ++ [x]) W1 u W') (hJ : J [] W) :
    CW Try.prog 120 #[(Value.func (.yield l) #[] #[]), (ptr b 0)] W (Rt (fun _ W' => J (orbit n) W' ∨ ∃ pre, pre <+: orbit n ∧ Jx pre W')) := by
 refine enter (al := [(Value.func (.yield l) #[] #[]), (ptr b 0)]) (k := 12) (l := ([(Value.func (.yield l) #[] #[]), (ptr b 0)] ++ (us 12))) Try.func120 rfl Try.ntmps120 rfl rfl ?_
 refine wpIn_seq ?_
 refine plain ?_
 refine wI (d_load (v := (eN n)) ⟨_, Try.underlying3, rfl⟩ rfl hb rfl) ?_
 refine wI (d_assign rfl) ?_
 refine wF ([(Value.func (.yield l) #[] #[]), (ptr b 0), undef, (eN n), (eN n)] ++ (us 9)) ?_
 refine wpL.done ?_
 refine fr_eq (l' := ([(Value.func (.yield l) #[] #[]), (ptr b 0), undef, (eN (orb n 0)), (eN n)] ++ (us 9))) (show (([(Value.func (.yield l) #[] #[]), (ptr b 0), undef, (eN n), (eN n)] ++ (us 9)) : List Value) = ([(Value.func (.yield l) #[] #[]), (ptr b 0), undef, (eN (orb n 0)), (eN n)] ++ (us 9)) from reslot ([(Value.func (.yield l) #[] #[]), (ptr b 0), undef, (eN n), (eN n)] ++ (us 9)) 3 (by rw [orb_zero hn])) ?_
 refine then_n ?_
 refine wpIn_block ?_
 refine loop2 (fun (i : (Nat)) => fun (z : Nat → Value) => (([(Value.func (.yield l) #[] #[]), (ptr b 0), undef, (eN (orb n i)), (eN n)] ++ (zs z 5 9)) : List Value)) (fun (i : (Nat)) => fun (w_ : World) => (i < per n) ∧ (J ((orbit n).take i) w_) ∧ Arr 3 b [(eN n)] w_) (fun (i : (Nat)) => 8 - i) 0 rfl ?_ ?_
 ·
  refine ⟨?_, ?_, ?_⟩
  ·
   exact per_pos n
  ·
   exact hJ
  ·
   exact hb
 rintro i z w12 ⟨hi, hJ, hb⟩
 (try dsimp only)
 refine wpIn_seq ?_
 refine wpIn_seq ?_
 refine plain ?_
 refine wI (d_move rfl) ?_
 refine wI (d_move rfl) ?_
 refine wO (d_yield (xl := [.tmp 6]) (al := [(eN (orb n i))]) rfl rfl (hy _ _ (by rw [orbit_take hi]; exact take_pre _ _) _ hJ)) ?_
 rintro _ w13 ⟨t, rfl, hT, hF⟩
 refine wF ([(Value.func (.yield l) #[] #[]), (ptr b 0), undef, (eN (orb n i)), (eN n), (Value.func (.yield l) #[] #[]), (eN (orb n i)), (Value.bool t)] ++ (zs z 8 6)) ?_
 refine wpL.done ?_
 refine then_n ?_
 refine cond_b rfl (fun c0 => ?_) (fun c0 => ?_)
 ·
  obtain ⟨hJ, oY⟩ := hT c0
  rw [orbit_take hi] at hJ
  replace hb := hb.step oY (fun h => h kb)
  refine wpIn_skip ?_
  refine then_n ?_
  refine wpIn_block ?_
  refine wpIn_seq ?_
  refine plain ?_
  refine wI (d_move rfl) ?_
  refine wI (n_mul (a := 2) (b := (orb n i)) rfl rfl (by have := orb_lt n i; omega)) ?_
  refine wI (n_rem (a := (2 * (orb n i))) (b := 255) rfl rfl (by decide)) ?_
  refine wF [(Value.func (.yield l) #[] #[]), (ptr b 0), undef, (eN (orb n i)), (eN n), (Value.func (.yield l) #[] #[]), (eN (orb n i)), (Value.bool t), (eN (orb n i)), (eN (2 * (orb n i))), (eN ((2 * (orb n i)) % 255)), (z 11), (z 12), (z 13)] ?_
  refine wI (d_assign rfl) ?_
  refine wF [(Value.func (.yield l) #[] #[]), (ptr b 0), undef, (eN ((2 * (orb n i)) % 255)), (eN n), (Value.func (.yield l) #[] #[]), (eN (orb n i)), (Value.bool t), (eN (orb n i)), (eN (2 * (orb n i))), (eN ((2 * (orb n i)) % 255)), (z 11), (z 12), (z 13)] ?_
  refine wpL.done ?_
  refine then_n ?_
  refine wpIn_seq ?_
  refine plain ?_
  refine wI (d_move rfl) ?_
  refine wI (d_load (v := (eN n)) ⟨_, Try.underlying3, rfl⟩ rfl hb rfl) ?_
  refine wI (n_eql (a := ((2 * (orb n i)) % 255)) (b := n) rfl rfl rfl) ?_
  refine wF [(Value.func (.yield l) #[] #[]), (ptr b 0), undef, (eN ((2 * (orb n i)) % 255)), (eN n), (Value.func (.yield l) #[] #[]), (eN (orb n i)), (Value.bool t), (eN (orb n i)), (eN (2 * (orb n i))), (eN ((2 * (orb n i)) % 255)), (eN ((2 * (orb n i)) % 255)), (eN n), (Value.bool (decide (((2 * (orb n i)) % 255) = n)))] ?_
  refine wpL.done ?_
  refine then_n ?_
  refine cond_if rfl (fun c1 => ?_) (fun c1 => ?_)
  ·
   refine wpIn_ret ?_
   refine inb_r (then_r (inb_r ?_))
   refine leave0 (v := (Value.tuple #[])) (res0 Try.results120) ?_
   exact .inl (by have e := (orb_per n hn i (by have := per_le n; omega) hi).1 (by rw [← orb_succ]; exact c1); rw [e, ← orbit_length n, List.take_length] at hJ; exact hJ)
  refine wpIn_skip ?_
  refine inb_n (then_n ?_)
  refine ⟨[(Value.func (.yield l) #[] #[]), (ptr b 0), undef, (eN (orb n (i + 1))), (eN n), (Value.func (.yield l) #[] #[]), (eN (orb n i)), (Value.bool t), (eN (orb n i)), (eN (2 * (orb n i))), (eN ((2 * (orb n i)) % 255)), (eN ((2 * (orb n i)) % 255)), (eN n), (Value.bool (decide (((2 * (orb n i)) % 255) = n)))], (i + 1), (congrArg (fun l_ => fr l_ _) (show ([(Value.func (.yield l) #[] #[]), (ptr b 0), undef, (eN ((2 * (orb n i)) % 255)), (eN n), (Value.func (.yield l) #[] #[]), (eN (orb n i)), (Value.bool t), (eN (orb n i)), (eN (2 * (orb n i))), (eN ((2 * (orb n i)) % 255)), (eN ((2 * (orb n i)) % 255)), (eN n), (Value.bool (decide (((2 * (orb n i)) % 255) = n)))] : List Value) = [(Value.func (.yield l) #[] #[]), (ptr b 0), undef, (eN (orb n (i + 1))), (eN n), (Value.func (.yield l) #[] #[]), (eN (orb n i)), (Value.bool t), (eN (orb n i)), (eN (2 * (orb n i))), (eN ((2 * (orb n i)) % 255)), (eN ((2 * (orb n i)) % 255)), (eN n), (Value.bool (decide (((2 * (orb n i)) % 255) = n)))] from reslot [(Value.func (.yield l) #[] #[]), (ptr b 0), undef, (eN ((2 * (orb n i)) % 255)), (eN n), (Value.func (.yield l) #[] #[]), (eN (orb n i)), (Value.bool t), (eN (orb n i)), (eN (2 * (orb n i))), (eN ((2 * (orb n i)) % 255)), (eN ((2 * (orb n i)) % 255)), (eN n), (Value.bool (decide (((2 * (orb n i)) % 255) = n)))] 3 (congrArg eN (orb_succ n i)))), rfl, ⟨?_, ?_, ?_⟩, ?_⟩
  ·
   (try dsimp only)
   all_goals (have := (orb_per n hn i (by have := per_le n; omega) hi).2; have := mt this (by rw [← orb_succ]; exact c1); omega)
  ·
   exact hJ
  ·
   exact hb
  ·
   (try dsimp only)
   all_goals (have := per_le n; omega)
 refine wpIn_exit ?_
 refine then_x (then_x (inb_e ?_))
 refine to_ret ?_
 refine leave0 (v := (Value.tuple #[])) (res0 Try.results120) ?_
 exact .inr ⟨_, by rw [orbit_take hi]; exact take_pre _ _, hF c0⟩


theorem iter_doubled {O : Nat → Prop} {w0 : World} (n : Nat) (hn : n < 255) (b : Nat) (hb : Arr 3 b [eN n] w0) (nb : ¬ O b) : Iter Try.prog 120 [ptr b 0].toArray (fun x => [eN x].toArray) No (Kp O w0.heap.size) (orbit n) w0 :=
  iter_of (encs := fun x => [eN x]) fun l J Jx W hO SJ SJx hy hJ => doubled1_ok n hn b l J Jx W (hb.step hO (fun h => h ⟨hb.lt, nb⟩)) ⟨hb.lt, nb⟩ hy hJ
set_option maxRecDepth 20000 in
set_option maxHeartbeats 1000000 in
theorem minimal_ok (n : Int) (W : World) :
    CW Try.prog 93 #[(eI n)] W (Rt (RPs (Seq kB (minP n)) W)) := by
 have oW : Only No W W := Only.refl _ _
 refine enter (al := [(eI n)]) (k := 17) (l := ([(eI n)] ++ (us 17))) Try.func93 rfl Try.ntmps93 rfl rfl ?_
 refine wpIn_seq ?_
 refine plain ?_
 refine wI (d_assign rfl) ?_
 refine wF ([(eI n), undef, (Value.slice none 0 0)] ++ (us 15)) ?_
 refine wpL.done ?_
 refine then_n ?_
 refine wpIn_seq ?_
 refine plain ?_
 refine wO (d_buildL (cs := [(eB 1)]) Try.underlying22 s_ti5 rfl (nb rfl) (parts_cons (vs := [(eB 1)]) (cells_of (v := (eB 1)) rfl rfl) parts_nil) rfl) ?_
 rintro _ w11 ⟨o, rfl, g12, a13, o14⟩
 replace a13 : Arr 5 o (([1] : List UInt8).map eB) w11 := a13
 have l_o : ([1] : List UInt8).length = 1 := rfl
 have g_oW_o : W.heap.size ≤ o := Nat.le_trans oW.size g12
 replace oW := oW.tail0 o14
 refine wO (d_alloc s_ti22 rfl) ?_
 rintro _ w15 ⟨c, rfl, g16, a17, o18⟩
 have n_o_c : o ≠ c := a13.ne g16
 have g_oW_c : W.heap.size ≤ c := Nat.le_trans oW.size g16
 replace a13 := a13.step0 o18
 replace oW := oW.tail0 o18
 refine wO (d_store s_ti22 rfl rfl rfl a17 (nb rfl) rfl) ?_
 rintro _ w19 ⟨a20, o21⟩
 replace a13 := a13.step o21 (fun e => absurd e n_o_c)
 replace oW := oW.tailb o21 g_oW_c
 refine wF ([(eI n), undef, (Value.slice none 0 0), (ptr c 0), undef, (sli o 0 1 1)] ++ (us 12)) ?_
 refine wpL.done ?_
 have f22 : Ps (Or1 c (Old W.heap.size)) (Seq kB ([1] : List UInt8) (sli o 0 1 1)) w19 := arr_keep a13 l_o (Nat.le_refl _) (nx_or1 (Ne.symm n_o_c) (old_ne g_oW_o))
 refine then_n ?_
 refine wpIn_seq ?_
 refine wpIn_seq ?_
 refine plain ?_
 refine wI (d_move rfl) ?_
 refine wI (d_rem (k := .i64) (m := n) (n := 255) rfl rfl (by decide) rfl) ?_
 refine wI (d_add (k := .i64) (m := Int.tmod n 255) (n := 255) rfl rfl (r := Int.tmod n 255 + 255) (IntWalk.i64_in _ (by have := tm255 n; omega))) ?_
 refine wF ([(eI n), undef, (Value.slice none 0 0), (ptr c 0), undef, (sli o 0 1 1), (eI n), (eI (Int.tmod n 255)), (eI (Int.tmod n 255 + 255))] ++ (us 9)) ?_
 refine wI (d_rem (k := .i64) (m := Int.tmod n 255 + 255) (n := 255) rfl rfl (by decide) (r := (((n % 255).toNat : Nat) : Int)) (pm255 n)) ?_
 refine wO (d_call (xl := [.tmp 9]) (al := [(eN ((n % 255).toNat))]) Try.func111 (by kernel_rfl) rfl rfl rfl (doubled_ok ((n % 255).toNat) _)) ?_
 rintro _ w23 ⟨b25, rfl, g26, a27, o24⟩
 have n_c_b25 : c ≠ b25 := a20.ne g26
 have g_oW_b25 : W.heap.size ≤ b25 := Nat.le_trans oW.size g26
 replace f22 := f22.new o24 g26
 replace a20 := a20.step0 o24
 replace oW := oW.tail0 o24
 refine wF ([(eI n), undef, (Value.slice none 0 0), (ptr c 0), undef, (sli o 0 1 1), (eI n), (eI (Int.tmod n 255)), (eI (Int.tmod n 255 + 255)), (eN ((n % 255).toNat)), (Value.func (.func 120) #[] #[(ptr b25 0)])] ++ (us 7)) ?_
 refine wpL.done ?_
 refine then_n ?_
 refine wpIn_block ?_
 have h_lt_c := a20.lt
 have h_lt_b25 := a27.lt
 have tq_oW := oW.size
 have nO_b25 : ¬ (Or1 c No) b25 := (not_or1 (Ne.symm n_c_b25) not_no)
 obtain ⟨D_, hD_⟩ : ∃ D_, w23.heap.size = D_ := ⟨_, rfl⟩
 obtain ⟨L_, hL_⟩ : ∃ L_, w23.heap.size + 1 = L_ := ⟨_, rfl⟩
 refine range_ (encs := (fun x => [eN x])) (Pv := No) (O := (Or1 c No)) (xs := (orbit ((n % 255).toNat))) (D := D_) (L := L_) (rs := []) hD_ hL_ rfl Try.func120 (by kernel_rfl) rfl (iter_doubled ((n % 255).toNat) (toNat255 n) b25 a27 nO_b25) (fun k t => t.elim) (fun _ => rfl) (lt_or1 h_lt_c lt_no) (fun (pre : List Nat) (w_ : World) => ∃ (u : Value), Only (Or1 c No) w23 w_ ∧ Arr 22 c [u] w_ ∧ Arr 3 b25 [(eN ((n % 255).toNat))] w_ ∧ Ps (Or1 L_ (Or1 D_ (Or1 b25 (Or1 c (Old W.heap.size))))) (Seq kB (minL pre) u) w_) (fun _ _ _ => False) ?_ ?_ ?_ ?_ ?_ ?_
 ·
  rintro pre w_ w2_ ⟨u, o28, a20, a27, f_u⟩ ho_
  exact ⟨u, o28.tail ho_ (stab_tl hD_ hL_ (fun k t => t.elim)), a20.step ho_ (stab_b hD_ hL_ h_lt_c (fun t => t.elim)), a27.step ho_ (stab_b hD_ hL_ h_lt_b25 (fun t => t.elim)), f_u.step ho_ (stab_p (fun k t => t.elim))⟩
 ·
  intro _ _ _ _ h _; exact h.elim
 ·
  refine ⟨(sli o 0 1 1), ?_, ?_, ?_, ?_⟩
  ·
   exact Only.refl _ _
  ·
   exact a20
  ·
   exact a27
  ·
   exact f22.less (xx_new (by omega) (xx_new (Nat.le_of_eq hD_) xx_id))
 ·
  intro pre x w1_ hpx_ hI_ hL1_
  obtain ⟨u, o28, a20, a27, f_u⟩ := hI_
  replace f22 := Ps.re (X' := (Or1 L_ (Or1 D_ (Or1 b25 (Or1 c (Old W.heap.size)))))) f22 o28 (or1_skip (or1_mono no_any)) (xx_new (by omega) (xx_new (Nat.le_of_eq hD_) (xx_or1 (xx_or1 xx_id))))
  replace oW := oW.tail o28 (tl_new g_oW_c tl_no)
  have n_c_D_ : c ≠ D_ := by omega
  have n_b25_D_ : b25 ≠ D_ := by omega
  have g_oW_D_ : W.heap.size ≤ D_ := by omega
  have g_o28_D_ : w23.heap.size ≤ D_ := by omega
  have n_c_L_ : c ≠ L_ := by omega
  have n_b25_L_ : b25 ≠ L_ := by omega
  have g_oW_L_ : W.heap.size ≤ L_ := by omega
  have g_o28_L_ : w23.heap.size ≤ L_ := by omega
  have n_D__L_ : D_ ≠ L_ := by omega
  have aL_ : Dead L_ w1_ := hL1_
  have aD_ : Dead D_ w1_ := by unfold Dead; omega
  refine wp_eq (l' := ([(eI n), undef, (Value.slice none 0 0), (ptr c 0), undef, (sli o 0 1 1), (eI n), (eI (Int.tmod n 255)), (eI (Int.tmod n 255 + 255)), (eN ((n % 255).toNat)), (Value.func (.func 120) #[] #[(ptr b25 0)]), (eN x)] ++ (us 6))) (by kernel_rfl) ?_
  refine plain ?_
  refine wI (d_assign rfl) ?_
  refine wF ([(eI n), undef, (Value.slice none 0 0), (ptr c 0), (eN x), (sli o 0 1 1), (eI n), (eI (Int.tmod n 255)), (eI (Int.tmod n 255 + 255)), (eN ((n % 255).toNat)), (Value.func (.func 120) #[] #[(ptr b25 0)]), (eN x)] ++ (us 6)) ?_
  refine wpL.done ?_
  refine then_n ?_
  refine ⟨Only.refl _ _, fun w2_ oL_ _ => ?_⟩
  replace f22 := f22.stepb oL_ in1
  replace f_u := f_u.stepb oL_ in1
  replace a20 := a20.step oL_ (fun e => absurd e n_c_L_)
  replace a27 := a27.step oL_ (fun e => absurd e n_b25_L_)
  replace aD_ := aD_.step oL_ (fun e => absurd e n_D__L_)
  replace oW := oW.tailb oL_ g_oW_L_
  replace o28 := o28.tailb oL_ g_o28_L_
  replace aL_ : Dead L_ w2_ := Nat.lt_of_lt_of_le aL_ oL_.size
  have oR_ : Only (fun k => (Or1 c No) k ∨ L_ < k) w2_ w2_ := Only.refl _ _
  have hl1_ := hpx_.length_le
  rw [orbit_length, List.length_append, List.length_singleton] at hl1_
  have hl2_ := per_le (n % 255).toNat
  have hl3_ := minL_len pre
  refine wpIn_block ?_
  refine drawn' (O := (Or1 c No)) (n := 6) [0, 0, 2, 6, 15, 31] [(0, 12), (1, 13), (2, 14), (3, 15), (4, 16)] [0, 1, 2, 3, 4] [5] (fun i_ => ([RF.is (Or1 c No) u, RF.is (Or1 c No) (eN x), RF.is (Or1 c No) (eB (exI ((x : Nat) : Int))), RF.ps (Or1 c No) (Or1 L_ (Or1 D_ (Or1 b25 (Or1 c (Old W.heap.size))))) (Seq kB [exI ((x : Nat) : Int), 1]) (or1_skip (or1_skip (or1_skip (or1_mono no_any)))), RF.ps (Or1 c No) (Or1 L_ (Or1 D_ (Or1 b25 (Or1 c (Old W.heap.size))))) (Seq kB (mulP (minL pre) [exI ((x : Nat) : Int), 1])) (or1_skip (or1_skip (or1_skip (or1_mono no_any)))), RF.any (Or1 c No)] : List (RF (Or1 c No))).getD i_ (RF.any (Or1 c No))) (fun k_ w_ => match k_ with | 0 => Arr 22 c [u] w_ ∧ Arr 3 b25 [(eN ((n % 255).toNat))] w_ ∧ Dead D_ w_ ∧ Dead L_ w_ | _ => ∃ (zv29_5 : Value), Arr 22 c [zv29_5] w_ ∧ Arr 3 b25 [(eN ((n % 255).toNat))] w_ ∧ Dead D_ w_ ∧ Dead L_ w_ ∧ Ps (Or1 L_ (Or1 D_ (Or1 b25 (Or1 c (Old W.heap.size))))) (Seq kB (mulP (minL pre) [exI ((x : Nat) : Int), 1]) zv29_5) w_) (fun v29 => [(eI n), undef, (Value.slice none 0 0), (ptr c 0), (eN x), (sli o 0 1 1), (eI n), (eI (Int.tmod n 255)), (eI (Int.tmod n 255 + 255)), (eN ((n % 255).toNat)), (Value.func (.func 120) #[] #[(ptr b25 0)]), (eN x), (v29 0), (v29 1), (v29 2), (v29 3), (v29 4), undef]) s_mx (by kernel_rfl) rfl (by kernel_rfl) (by rfl) (fun v_ => by kernel_rfl) (fun k_ => match k_ with | 0 => fun w_ w2_ h ho => by obtain ⟨r_a20, r_a27, r_aD_, r_aL_⟩ := h; exact ⟨r_a20.step0 ho, r_a27.step0 ho, r_aD_.step0 ho, r_aL_.step0 ho⟩ | (_ + 1) => fun w_ w2_ h ho => by obtain ⟨zv29_5, r_a20, r_a27, r_aD_, r_aL_, fz_zv29_5⟩ := h; exact ⟨zv29_5, r_a20.step0 ho, r_a27.step0 ho, r_aD_.step0 ho, r_aL_.step0 ho, fz_zv29_5.step0 ho⟩) ⟨a20, a27, aD_, aL_⟩ ?_ ?_ ?_
  ·
   refine ls_cons ?_ ?_
   ·
    intro v29 lo hi w_ k_ hO hd _ _ hk_ _ hR hold
    obtain rfl : k_ = 0 := Nat.le_zero.1 (hk_ 0 (by decide) (by kernel_rfl))
    obtain ⟨r_a20, r_a27, r_aD_, r_aL_⟩ := hR
    clear hd hold
    refine ⟨_, rfl, gd rfl ?_⟩
    exact Does.is (d_load (v := u) ⟨_, Try.underlying22, rfl⟩ rfl r_a20 rfl)
   refine ls_cons ?_ ?_
   ·
    intro v29 lo hi w_ k_ hO hd _ _ hk_ _ hR hold
    obtain rfl : k_ = 0 := Nat.le_zero.1 (hk_ 0 (by decide) (by kernel_rfl))
    obtain ⟨r_a20, r_a27, r_aD_, r_aL_⟩ := hR
    clear hd hold
    refine ⟨_, rfl, gd rfl ?_⟩
    exact Does.is (d_move rfl)
   refine ls_cons ?_ ?_
   ·
    intro v29 lo hi w_ k_ hO hd _ _ hk_ _ hR hold
    obtain rfl : k_ = 0 := Nat.le_zero.1 (hk_ 0 (by decide) (by kernel_rfl))
    obtain ⟨r_a20, r_a27, r_aD_, r_aL_⟩ := hR
    have e1 : v29 1 = (eN x) := hd 1 (by kernel_rfl)
    clear hd hold
    refine ⟨_, rfl, gd rfl ?_⟩
    exact d_call (xl := [.tmp 13]) (al := [(eN x)]) Try.func100 (by kernel_rfl) rfl (show ([(v29 1)] : List Value) = [(eN x)] from by rw [e1]) rfl (gfExp_ok ((x : Nat) : Int) _)
   refine ls_cons ?_ ?_
   ·
    intro v29 lo hi w_ k_ hO hd _ _ hk_ _ hR hold
    obtain rfl : k_ = 0 := Nat.le_zero.1 (hk_ 0 (by decide) (by kernel_rfl))
    obtain ⟨r_a20, r_a27, r_aD_, r_aL_⟩ := hR
    have e2 : v29 2 = (eB (exI ((x : Nat) : Int))) := hd 2 (by kernel_rfl)
    clear hd hold
    refine ⟨_, rfl, gd rfl ?_⟩
    refine Does.mono (d_buildL (cs := [(eB (exI ((x : Nat) : Int))), (eB 1)]) Try.underlying22 s_ti5 rfl (nb rfl) (parts_cons (vs := [(eB (exI ((x : Nat) : Int)))]) (cells_of (v := (eB (exI ((x : Nat) : Int)))) e2 rfl) (parts_cons (vs := [(eB 1)]) (cells_of (v := (eB 1)) rfl rfl) parts_nil)) rfl) (fun u w' h => ⟨(made_seq (n := 2) (xs := [exI ((x : Nat) : Int), 1]) (enc := eB) h rfl).1.less (or1_old r_aL_.lt (or1_old r_aD_.lt (or1_old r_a27.lt (or1_old r_a20.lt (old_old (Nat.le_trans oW.size hO.size)))))), (made_seq (n := 2) (xs := [exI ((x : Nat) : Int), 1]) (enc := eB) h rfl).2⟩)
   refine ls_cons ?_ ?_
   ·
    intro v29 lo hi w_ k_ hO hd _ _ hk_ _ hR hold
    obtain rfl : k_ = 0 := Nat.le_zero.1 (hk_ 0 (by decide) (by kernel_rfl))
    obtain ⟨r_a20, r_a27, r_aD_, r_aL_⟩ := hR
    have e0 : v29 0 = u := hd 0 (by kernel_rfl)
    have d3 : Ps (Or1 L_ (Or1 D_ (Or1 b25 (Or1 c (Old W.heap.size))))) (Seq kB [exI ((x : Nat) : Int), 1] (v29 3)) w_ := hd 3 (by kernel_rfl)
    clear hd hold
    refine ⟨_, rfl, gd rfl ?_⟩
    refine Does.mono (R := ROw 5 eB (mulP (minL pre) [exI ((x : Nat) : Int), 1]) w_) ?_ (fun u w' h => ⟨(h.ps).1.less (or1_old r_aL_.lt (or1_old r_aD_.lt (or1_old r_a27.lt (or1_old r_a20.lt (old_old (Nat.le_trans oW.size hO.size)))))), (h.ps).2⟩)
    exact d_call (xl := [.tmp 12, .tmp 15]) (al := [u, (v29 3)]) Try.func92 (by kernel_rfl) rfl (show ([(v29 0), (v29 3)] : List Value) = [u, (v29 3)] from by rw [e0]) rfl (mul_ok (minL pre) [exI ((x : Nat) : Int), 1] u (v29 3) _ (Ps.no (f_u.step hO (or1_skip (or1_skip (or1_skip (or1_mono no_any)))))) (Ps.no d3) (by first | omega | (simp; done) | (simp; omega)) (by first | omega | (simp; done) | (simp; omega)))
   exact ls_nil
  ·
   refine ms_one ?_
   ·
    intro v29 lo hi w_ hO hd _ hR hold
    obtain ⟨r_a20, r_a27, r_aD_, r_aL_⟩ := hR
    have d4 : Ps (Or1 L_ (Or1 D_ (Or1 b25 (Or1 c (Old W.heap.size))))) (Seq kB (mulP (minL pre) [exI ((x : Nat) : Int), 1]) (v29 4)) w_ := hd 4 (by kernel_rfl)
    clear hd hold
    refine ⟨_, rfl, gd rfl ?_⟩
    refine Does.mono (d_store s_ti22 rfl rfl (Seq.one d4) r_a20 (nb rfl) rfl) (fun u w' h => ⟨trivial, ⟨(v29 4), h.1, r_a27.step h.2 (fun e => absurd e (Ne.symm n_c_b25)), r_aD_.step h.2 (fun e => absurd e (Ne.symm n_c_D_)), r_aL_.step h.2 (fun e => absurd e (Ne.symm n_c_L_)), d4.step h.2 (fun k e => by have : k = c := e; rw [this]; exact (in2 (in2 (in2 in1))))⟩, h.2.mono (fun k _ e => by have : k = c := e; rw [this]; exact in1)⟩)
  intro v29 lo_ hi_ w30 o31 hd iv_ hR
  have e0 : v29 0 = u := hd 0 (by decide)
  have e1 : v29 1 = (eN x) := hd 1 (by decide)
  have e2 : v29 2 = (eB (exI ((x : Nat) : Int))) := hd 2 (by decide)
  have f_v29_3 : Ps (Or1 L_ (Or1 D_ (Or1 b25 (Or1 c (Old W.heap.size))))) (Seq kB [exI ((x : Nat) : Int), 1] (v29 3)) w30 := hd 3 (by decide)
  have f_v29_4 : Ps (Or1 L_ (Or1 D_ (Or1 b25 (Or1 c (Old W.heap.size))))) (Seq kB (mulP (minL pre) [exI ((x : Nat) : Int), 1]) (v29 4)) w30 := hd 4 (by decide)
  clear hd iv_ lo_ hi_
  refine fr_eq (l' := [(eI n), undef, (Value.slice none 0 0), (ptr c 0), (eN x), (sli o 0 1 1), (eI n), (eI (Int.tmod n 255)), (eI (Int.tmod n 255 + 255)), (eN ((n % 255).toNat)), (Value.func (.func 120) #[] #[(ptr b25 0)]), (eN x), u, (eN x), (eB (exI ((x : Nat) : Int))), (v29 3), (v29 4), undef]) (by rw [e0, e1, e2] <;> rfl) ?_
  clear e0 e1 e2
  replace f22 := f22.step o31 (or1_skip (or1_skip (or1_skip (or1_mono no_any))))
  replace f_u := f_u.step o31 (or1_skip (or1_skip (or1_skip (or1_mono no_any))))
  obtain ⟨zv29_5, xr_a20, xr_a27, xr_aD_, xr_aL_, fz_zv29_5⟩ := hR
  replace a20 : Arr 22 c [zv29_5] w30 := xr_a20
  replace a27 : Arr 3 b25 [(eN ((n % 255).toNat))] w30 := xr_a27
  replace aD_ : Dead D_ w30 := xr_aD_
  replace aL_ : Dead L_ w30 := xr_aL_
  clear xr_a20 xr_a27 xr_aD_ xr_aL_
  replace oW := oW.tail o31 (tl_new g_oW_c tl_no)
  replace o28 := o28.tail o31 (tl_in in1 tl_no)
  replace oR_ := oR_.tail o31 (tl_in (Or.inl in1) tl_no)
  refine inb_n ?_
  refine ⟨oR_, zv29_5, ?_, ?_, ?_, ?_⟩
  ·
   exact o28
  ·
   exact a20
  ·
   exact a27
  ·
   (try dsimp only)
   all_goals (rw [minL_snoc, ← exI_nat]; exact fz_zv29_5.less (xx_or1 (xx_or1 (xx_or1 (xx_or1 xx_id)))))
 ·
  intro w1_ hI_ aD_
  obtain ⟨u, o28, a20, a27, f_u⟩ := hI_
  replace f22 := Ps.re (X' := (Or1 D_ (Or1 b25 (Or1 c (Old W.heap.size))))) f22 o28 (or1_skip (or1_mono no_any)) (xx_new (Nat.le_of_eq hD_) (xx_or1 (xx_or1 xx_id)))
  replace oW := oW.tail o28 (tl_new g_oW_c tl_no)
  have n_c_D_ : c ≠ D_ := by omega
  have n_b25_D_ : b25 ≠ D_ := by omega
  have g_oW_D_ : W.heap.size ≤ D_ := by omega
  have g_o28_D_ : w23.heap.size ≤ D_ := by omega
  replace f_u := f_u.less (Y := (Or1 D_ (Or1 b25 (Or1 c (Old W.heap.size))))) (xx_skip xx_id)
  refine inb_n (then_n ?_)
  refine wpIn_seq ?_
  refine plain ?_
  refine wI (d_load (v := u) ⟨_, Try.underlying22, rfl⟩ rfl a20 rfl) ?_
  refine wI (d_assign rfl) ?_
  refine wF ([(eI n), undef, u, (ptr c 0), undef, (sli o 0 1 1), (eI n), (eI (Int.tmod n 255)), (eI (Int.tmod n 255 + 255)), (eN ((n % 255).toNat)), (Value.func (.func 120) #[] #[(ptr b25 0)])] ++ (us 6 ++ [u])) ?_
  refine wpL.done ?_
  refine then_n ?_
  refine wpIn_ret ?_
  refine leave (marks_ok aD_) (fun w32 o33 => ⟨res1 Try.results93 rfl, ?_⟩)
  replace o33 := only_mem o33
  replace f22 := f22.stepb o33 in1
  replace f_u := f_u.stepb o33 in1
  replace a20 := a20.step o33 (fun e => absurd e n_c_D_)
  replace a27 := a27.step o33 (fun e => absurd e n_b25_D_)
  replace oW := oW.tailb o33 g_oW_D_
  replace o28 := o28.tailb o33 g_o28_D_
  exact ⟨(f_u.less (xx_skip (xx_skip (xx_skip xx_id)))), oW⟩
 ·
  intro _ _ _ _ h _; exact h.elim

set_option maxRecDepth 20000 in
set_option maxHeartbeats 1000000 in
theorem ref3Minimal_ok (n : Int) (W : World) :
    CW Try.prog 95 #[(eI n)] W (Rt (ROw 5 eB (minP n) W)) := by
 have oW : Only No W W := Only.refl _ _
 refine enter (al := [(eI n)]) (k := 28) (l := ([(eI n)] ++ (us 28))) Try.func95 rfl Try.ntmps95 rfl rfl ?_
 refine wpIn_seq ?_
 refine plain ?_
 refine wI (d_assign rfl) ?_
 refine wF ([(eI n), undef, (Value.slice none 0 0)] ++ (us 26)) ?_
 refine wpL.done ?_
 refine then_n ?_
 refine wpIn_seq ?_
 refine plain ?_
 refine wI (d_move rfl) ?_
 refine wI (d_rem (k := .i64) (m := n) (n := 255) rfl rfl (by decide) rfl) ?_
 refine wI (d_assign rfl) ?_
 refine wF ([(eI (Int.tmod n 255)), undef, (Value.slice none 0 0), undef, undef, (eI n), (eI (Int.tmod n 255))] ++ (us 22)) ?_
 refine wpL.done ?_
 refine then_n ?_
 refine wpIn_seq ?_
 refine wpIn_seq ?_
 refine plain ?_
 refine wI (d_move rfl) ?_
 refine wI (d_lss (k := .i64) (m := Int.tmod n 255) (n := 0) rfl rfl rfl) ?_
 refine wF ([(eI (Int.tmod n 255)), undef, (Value.slice none 0 0), undef, undef, (eI n), (eI (Int.tmod n 255)), (eI (Int.tmod n 255)), (Value.bool (decide (Int.tmod n 255 < 0)))] ++ (us 20)) ?_
 refine wpL.done ?_
 refine then_n ?_
 refine cond_if rfl (fun k1 => ?_) (fun k1 => ?_)
 ·
  refine plain ?_
  refine wI (d_move rfl) ?_
  refine wI (d_add (k := .i64) (m := Int.tmod n 255) (n := 255) rfl rfl (r := (((n % 255).toNat : Nat) : Int)) (tm_neg k1)) ?_
  refine wI (d_assign rfl) ?_
  refine wF ([(eN ((n % 255).toNat)), undef, (Value.slice none 0 0), undef, undef, (eI n), (eI (Int.tmod n 255)), (eI (Int.tmod n 255)), (Value.bool (decide (Int.tmod n 255 < 0))), (eI (Int.tmod n 255)), (eN ((n % 255).toNat))] ++ (us 18)) ?_
  refine wpL.done ?_
  refine then_n ?_
  refine wpIn_seq ?_
  refine plain ?_
  refine wI (d_move rfl) ?_
  refine wO (d_call (xl := [.tmp 11]) (al := [(eN ((n % 255).toNat))]) Try.func114 (by kernel_rfl) rfl rfl rfl (ref2Exp_ok (((n % 255).toNat : Nat) : Int) _)) ?_
  rintro _ w11 ⟨rfl, o12⟩
  replace oW := oW.tail0 o12
  refine wO (d_buildL (cs := [(eB (exI (((n % 255).toNat : Nat) : Int))), (eB 1)]) Try.underlying22 s_ti5 rfl (nb rfl) (parts_cons (vs := [(eB (exI (((n % 255).toNat : Nat) : Int)))]) (cells_of (v := (eB (exI (((n % 255).toNat : Nat) : Int)))) rfl rfl) (parts_cons (vs := [(eB 1)]) (cells_of (v := (eB 1)) rfl rfl) parts_nil)) rfl) ?_
  rintro _ w13 ⟨o, rfl, g14, a15, o16⟩
  replace a15 : Arr 5 o (([exI (((n % 255).toNat : Nat) : Int), 1] : List UInt8).map eB) w13 := a15
  have l_o : ([exI (((n % 255).toNat : Nat) : Int), 1] : List UInt8).length = 2 := rfl
  have g_oW_o : W.heap.size ≤ o := Nat.le_trans oW.size g14
  replace oW := oW.tail0 o16
  refine wF ([(eN ((n % 255).toNat)), undef, (Value.slice none 0 0), undef, undef, (eI n), (eI (Int.tmod n 255)), (eI (Int.tmod n 255)), (Value.bool (decide (Int.tmod n 255 < 0))), (eI (Int.tmod n 255)), (eN ((n % 255).toNat)), (eN ((n % 255).toNat)), (eB (exI (((n % 255).toNat : Nat) : Int))), (sli o 0 2 2)] ++ (us 15)) ?_
  refine wI (d_assign rfl) ?_
  refine wF ([(eN ((n % 255).toNat)), undef, (Value.slice none 0 0), (sli o 0 2 2), undef, (eI n), (eI (Int.tmod n 255)), (eI (Int.tmod n 255)), (Value.bool (decide (Int.tmod n 255 < 0))), (eI (Int.tmod n 255)), (eN ((n % 255).toNat)), (eN ((n % 255).toNat)), (eB (exI (((n % 255).toNat : Nat) : Int))), (sli o 0 2 2)] ++ (us 15)) ?_
  refine wpL.done ?_
  have a17 := Ow.of_map2 a15 l_o
  have q_oW_r : Fr (some o) none W.heap.size := Fr.new g_oW_o
  refine then_n ?_
  refine forget (fun zf18 => ([(eN ((n % 255).toNat)), (zf18 1), (zf18 2), (sli o 0 2 2), undef] ++ (zs zf18 5 24))) (by kernel_rfl) (fun zf18 => ?_)
  refine wpIn_seq ?_
  refine wpIn_seq ?_
  refine plain ?_
  refine wI (d_move rfl) ?_
  refine wI (n_mul (a := 2) (b := ((n % 255).toNat)) rfl rfl (by have := toNat255 n; omega)) ?_
  refine wI (n_rem (a := (2 * ((n % 255).toNat))) (b := 255) rfl rfl (by decide)) ?_
  refine wF ([(eN ((n % 255).toNat)), (zf18 1), (zf18 2), (sli o 0 2 2), undef] ++ (zs zf18 5 9 ++ [(eN ((n % 255).toNat)), (eN (2 * ((n % 255).toNat))), (eN ((2 * ((n % 255).toNat)) % 255))] ++ (zs zf18 17 12))) ?_
  refine wI (d_assign rfl) ?_
  refine wF ([(eN ((n % 255).toNat)), (zf18 1), (zf18 2), (sli o 0 2 2), (eN ((2 * ((n % 255).toNat)) % 255))] ++ (zs zf18 5 9 ++ [(eN ((n % 255).toNat)), (eN (2 * ((n % 255).toNat))), (eN ((2 * ((n % 255).toNat)) % 255))] ++ (zs zf18 17 12))) ?_
  refine wpL.done ?_
  refine fr_eq (l' := ([(eN ((n % 255).toNat)), (zf18 1), (zf18 2), (sli o 0 2 2), (eN (orb (n % 255).toNat 1))] ++ (zs zf18 5 9 ++ [(eN ((n % 255).toNat)), (eN (2 * ((n % 255).toNat))), (eN ((2 * ((n % 255).toNat)) % 255))] ++ (zs zf18 17 12)))) (show (([(eN ((n % 255).toNat)), (zf18 1), (zf18 2), (sli o 0 2 2), (eN ((2 * ((n % 255).toNat)) % 255))] ++ (zs zf18 5 9 ++ [(eN ((n % 255).toNat)), (eN (2 * ((n % 255).toNat))), (eN ((2 * ((n % 255).toNat)) % 255))] ++ (zs zf18 17 12))) : List Value) = ([(eN ((n % 255).toNat)), (zf18 1), (zf18 2), (sli o 0 2 2), (eN (orb (n % 255).toNat 1))] ++ (zs zf18 5 9 ++ [(eN ((n % 255).toNat)), (eN (2 * ((n % 255).toNat))), (eN ((2 * ((n % 255).toNat)) % 255))] ++ (zs zf18 17 12))) from reslot ([(eN ((n % 255).toNat)), (zf18 1), (zf18 2), (sli o 0 2 2), (eN ((2 * ((n % 255).toNat)) % 255))] ++ (zs zf18 5 9 ++ [(eN ((n % 255).toNat)), (eN (2 * ((n % 255).toNat))), (eN ((2 * ((n % 255).toNat)) % 255))] ++ (zs zf18 17 12))) 4 (congrArg eN (orb_one (toNat255 n)))) ?_
  refine then_n ?_
  refine wpIn_block ?_
  have h_lts_r := a17.lts
  refine loop2 (fun (s_ : (Nat) × (Option Nat) × (Value)) => match s_ with | ⟨i, bo_r, u_r⟩ => fun (z : Nat → Value) => (([(eN ((n % 255).toNat)), (zf18 1), (zf18 2), u_r, (eN (orb (n % 255).toNat i))] ++ (zs zf18 5 9 ++ [(eN ((n % 255).toNat)), (eN (2 * ((n % 255).toNat))), (eN ((2 * ((n % 255).toNat)) % 255))] ++ (zs z 17 11 ++ [(zf18 28)]))) : List Value)) (fun (s_ : (Nat) × (Option Nat) × (Value)) => match s_ with | ⟨i, bo_r, u_r⟩ => fun (w_ : World) => (0 < i ∧ i ≤ per (n % 255).toNat) ∧ Only (Orq (some o) No) w13 w_ ∧ Ow 5 1 bo_r u_r (minL ((orbit (n % 255).toNat).take i)).length ((minL ((orbit (n % 255).toNat).take i)).map eB) w_ ∧ Fr bo_r (some o) w13.heap.size) (fun (s_ : (Nat) × (Option Nat) × (Value)) => match s_ with | ⟨i, bo_r, u_r⟩ => 8 - i) ⟨1, (some o), (sli o 0 2 2)⟩ rfl ?_ ?_
  ·
   refine ⟨?_, ?_, ?_, ?_⟩
   ·
    (try dsimp only)
    all_goals (have := per_pos (n % 255).toNat; omega)
   ·
    exact Only.refl _ _
   ·
    (try dsimp only)
    all_goals (rw [minL_first (toNat255 n), ← exI_nat]; exact a17)
   ·
    exact Fr.same
  rintro ⟨i, bo_r, u_r⟩ z w20 ⟨hi, o19, a17, qq_r⟩
  (try dsimp only)
  have tq_oW := oW.size
  replace oW := oW.tail o19 (tl_q q_oW_r (fun _ e => by cases e) tl_no)
  replace q_oW_r := qtr qq_r q_oW_r tq_oW
  have q_o19_r := qq_r
  refine wpIn_seq ?_
  refine wpIn_seq ?_
  refine plain ?_
  refine wI (d_move rfl) ?_
  refine wI (d_move rfl) ?_
  refine wI (n_neq (a := (orb (n % 255).toNat i)) (b := ((n % 255).toNat)) rfl rfl rfl) ?_
  refine wF ([(eN ((n % 255).toNat)), (zf18 1), (zf18 2), u_r, (eN (orb (n % 255).toNat i))] ++ (zs zf18 5 9 ++ [(eN ((n % 255).toNat)), (eN (2 * ((n % 255).toNat))), (eN ((2 * ((n % 255).toNat)) % 255)), (eN (orb (n % 255).toNat i)), (eN ((n % 255).toNat)), (Value.bool (!decide ((orb (n % 255).toNat i) = ((n % 255).toNat))))] ++ (zs z 20 8 ++ [(zf18 28)]))) ?_
  refine wpL.done ?_
  refine then_n ?_
  refine cond_un rfl (fun c0 => ?_) (fun c0 => ?_)
  ·
   refine wpIn_skip ?_
   refine then_n ?_
   refine wpIn_seq ?_
   refine wpIn_block ?_
   have hl_ := minL_take (n % 255).toNat i
   have hp_ := per_le (n % 255).toNat
   refine plain ?_
   refine wI (d_move rfl) ?_
   refine wI (d_move rfl) ?_
   refine wO (d_call (xl := [.tmp 24]) (al := [(eN (orb (n % 255).toNat i))]) Try.func114 (by kernel_rfl) rfl rfl rfl (ref2Exp_ok ((orb (n % 255).toNat i : Nat) : Int) _)) ?_
   rintro _ w21 ⟨rfl, o22⟩
   replace a17 := a17.step0 o22
   replace oW := oW.tail0 o22
   replace o19 := o19.tail0 o22
   refine wF ([(eN ((n % 255).toNat)), (zf18 1), (zf18 2), u_r, (eN (orb (n % 255).toNat i))] ++ (zs zf18 5 9 ++ [(eN ((n % 255).toNat)), (eN (2 * ((n % 255).toNat))), (eN ((2 * ((n % 255).toNat)) % 255)), (eN (orb (n % 255).toNat i)), (eN ((n % 255).toNat)), (Value.bool (!decide ((orb (n % 255).toNat i) = ((n % 255).toNat)))), (z 20), (z 21), (z 22), u_r, (eN (orb (n % 255).toNat i)), (eB (exI ((orb (n % 255).toNat i : Nat) : Int))), (z 26), (z 27), (zf18 28)])) ?_
   refine wO (d_buildL (cs := [(eB (exI ((orb (n % 255).toNat i : Nat) : Int))), (eB 1)]) Try.underlying22 s_ti5 rfl (nb rfl) (parts_cons (vs := [(eB (exI ((orb (n % 255).toNat i : Nat) : Int)))]) (cells_of (v := (eB (exI ((orb (n % 255).toNat i : Nat) : Int)))) rfl rfl) (parts_cons (vs := [(eB 1)]) (cells_of (v := (eB 1)) rfl rfl) parts_nil)) rfl) ?_
   rintro _ w24 ⟨b23, rfl, g25, a26, o27⟩
   replace a26 : Arr 5 b23 (([exI ((orb (n % 255).toNat i : Nat) : Int), 1] : List UInt8).map eB) w24 := a26
   have l_b23 : ([exI ((orb (n % 255).toNat i : Nat) : Int), 1] : List UInt8).length = 2 := rfl
   have nq_r_b23 : ∀ x, bo_r = some x → ¬ x = b23 := fun x hx e => by have := a17.lts x hx; omega
   have g_oW_b23 : W.heap.size ≤ b23 := Nat.le_trans oW.size g25
   have g_o19_b23 : w13.heap.size ≤ b23 := Nat.le_trans o19.size g25
   replace a17 := a17.step0 o27
   replace oW := oW.tail0 o27
   replace o19 := o19.tail0 o27
   refine wO (d_call (xl := [.tmp 23, .tmp 26]) (al := [u_r, (sli b23 0 2 2)]) Try.func94 (by kernel_rfl) rfl rfl rfl (ref3Mul_ok (minL ((orbit (n % 255).toNat).take i)) ([exI ((orb (n % 255).toNat i : Nat) : Int), 1] : List UInt8) u_r (sli b23 0 2 2) _ (Ps.no (a17.seq (X := No) (fun _ _ h => h))) (Ps.no (arr_seq a26 l_b23 (Nat.le_refl _))) (by first | omega | (simp; done) | (simp; omega)) (by first | omega | (simp; done) | (simp; omega)))) ?_
   rintro u30 w28 f31
   obtain ⟨bo32, f31, g33, o29⟩ := f31
   have nq_r2_b23 := nq_new g33 a26.lt
   have nqq_r_r2 := nqq_new g33 a17.lts
   have q_oW_r2 := qnew g33 oW.size
   have q_o19_r2 := qnew g33 o19.size
   replace a26 := a26.step0 o29
   replace a17 := a17.step0 o29
   replace oW := oW.tail0 o29
   replace o19 := o19.tail0 o29
   refine wI (d_assign rfl) ?_
   refine wF ([(eN ((n % 255).toNat)), (zf18 1), (zf18 2), u30, (eN (orb (n % 255).toNat i))] ++ (zs zf18 5 9 ++ [(eN ((n % 255).toNat)), (eN (2 * ((n % 255).toNat))), (eN ((2 * ((n % 255).toNat)) % 255)), (eN (orb (n % 255).toNat i)), (eN ((n % 255).toNat)), (Value.bool (!decide ((orb (n % 255).toNat i) = ((n % 255).toNat)))), (z 20), (z 21), (z 22), u_r, (eN (orb (n % 255).toNat i)), (eB (exI ((orb (n % 255).toNat i : Nat) : Int))), (sli b23 0 2 2), u30, (zf18 28)])) ?_
   refine wpL.done ?_
   refine inb_n (then_n ?_)
   refine forget (fun zf34 => ([(eN ((n % 255).toNat)), (zf18 1), (zf18 2), u30, (eN (orb (n % 255).toNat i))] ++ (zs zf18 5 9 ++ [(eN ((n % 255).toNat)), (eN (2 * ((n % 255).toNat))), (eN ((2 * ((n % 255).toNat)) % 255))] ++ (zs zf34 17 11 ++ [(zf18 28)])))) (by kernel_rfl) (fun zf34 => ?_)
   refine plain ?_
   refine wI (d_move rfl) ?_
   refine wI (n_mul (a := 2) (b := (orb (n % 255).toNat i)) rfl rfl (by have := orb_lt (n % 255).toNat i; omega)) ?_
   refine wI (n_rem (a := (2 * (orb (n % 255).toNat i))) (b := 255) rfl rfl (by decide)) ?_
   refine wF ([(eN ((n % 255).toNat)), (zf18 1), (zf18 2), u30, (eN (orb (n % 255).toNat i))] ++ (zs zf18 5 9 ++ [(eN ((n % 255).toNat)), (eN (2 * ((n % 255).toNat))), (eN ((2 * ((n % 255).toNat)) % 255)), (zf34 17), (zf34 18), (zf34 19), (eN (orb (n % 255).toNat i)), (eN (2 * (orb (n % 255).toNat i))), (eN ((2 * (orb (n % 255).toNat i)) % 255))] ++ (zs zf34 23 5 ++ [(zf18 28)]))) ?_
   refine wI (d_assign rfl) ?_
   refine wF ([(eN ((n % 255).toNat)), (zf18 1), (zf18 2), u30, (eN ((2 * (orb (n % 255).toNat i)) % 255))] ++ (zs zf18 5 9 ++ [(eN ((n % 255).toNat)), (eN (2 * ((n % 255).toNat))), (eN ((2 * ((n % 255).toNat)) % 255)), (zf34 17), (zf34 18), (zf34 19), (eN (orb (n % 255).toNat i)), (eN (2 * (orb (n % 255).toNat i))), (eN ((2 * (orb (n % 255).toNat i)) % 255))] ++ (zs zf34 23 5 ++ [(zf18 28)]))) ?_
   refine wpL.done ?_
   refine then_n ?_
   refine ⟨([(eN ((n % 255).toNat)), (zf18 1), (zf18 2), u30, (eN (orb (n % 255).toNat (i + 1)))] ++ (zs zf18 5 9 ++ [(eN ((n % 255).toNat)), (eN (2 * ((n % 255).toNat))), (eN ((2 * ((n % 255).toNat)) % 255)), (zf34 17), (zf34 18), (zf34 19), (eN (orb (n % 255).toNat i)), (eN (2 * (orb (n % 255).toNat i))), (eN ((2 * (orb (n % 255).toNat i)) % 255))] ++ (zs zf34 23 5 ++ [(zf18 28)]))), ⟨i + 1, bo32, u30⟩, (congrArg (fun l_ => fr l_ _) (show (([(eN ((n % 255).toNat)), (zf18 1), (zf18 2), u30, (eN ((2 * (orb (n % 255).toNat i)) % 255))] ++ (zs zf18 5 9 ++ [(eN ((n % 255).toNat)), (eN (2 * ((n % 255).toNat))), (eN ((2 * ((n % 255).toNat)) % 255)), (zf34 17), (zf34 18), (zf34 19), (eN (orb (n % 255).toNat i)), (eN (2 * (orb (n % 255).toNat i))), (eN ((2 * (orb (n % 255).toNat i)) % 255))] ++ (zs zf34 23 5 ++ [(zf18 28)]))) : List Value) = ([(eN ((n % 255).toNat)), (zf18 1), (zf18 2), u30, (eN (orb (n % 255).toNat (i + 1)))] ++ (zs zf18 5 9 ++ [(eN ((n % 255).toNat)), (eN (2 * ((n % 255).toNat))), (eN ((2 * ((n % 255).toNat)) % 255)), (zf34 17), (zf34 18), (zf34 19), (eN (orb (n % 255).toNat i)), (eN (2 * (orb (n % 255).toNat i))), (eN ((2 * (orb (n % 255).toNat i)) % 255))] ++ (zs zf34 23 5 ++ [(zf18 28)]))) from reslot ([(eN ((n % 255).toNat)), (zf18 1), (zf18 2), u30, (eN ((2 * (orb (n % 255).toNat i)) % 255))] ++ (zs zf18 5 9 ++ [(eN ((n % 255).toNat)), (eN (2 * ((n % 255).toNat))), (eN ((2 * ((n % 255).toNat)) % 255)), (zf34 17), (zf34 18), (zf34 19), (eN (orb (n % 255).toNat i)), (eN (2 * (orb (n % 255).toNat i))), (eN ((2 * (orb (n % 255).toNat i)) % 255))] ++ (zs zf34 23 5 ++ [(zf18 28)]))) 4 (congrArg eN (orb_succ (n % 255).toNat i)))), rfl, ⟨?_, ?_, ?_, ?_⟩, ?_⟩
   ·
    exact ref3min_step n hi c0
   ·
    exact o19
   ·
    (try dsimp only)
    all_goals (rw [← minL_next n hi c0, ← exI_nat]; exact f31)
   ·
    exact fun c hc => (q_o19_r2 c hc).elim (fun h => by cases h) .inr
   ·
    (try dsimp only)
    all_goals (have := ref3min_step n hi c0; omega)
  refine wpIn_exit ?_
  refine then_x (then_x (inb_e ?_))
  refine then_n ?_
  refine wpIn_seq ?_
  refine plain ?_
  refine wI (d_move rfl) ?_
  refine wI (d_assign rfl) ?_
  refine wF ([(eN ((n % 255).toNat)), (zf18 1), u_r, u_r, (eN (orb (n % 255).toNat i))] ++ (zs zf18 5 9 ++ [(eN ((n % 255).toNat)), (eN (2 * ((n % 255).toNat))), (eN ((2 * ((n % 255).toNat)) % 255)), (eN (orb (n % 255).toNat i)), (eN ((n % 255).toNat)), (Value.bool (!decide ((orb (n % 255).toNat i) = ((n % 255).toNat))))] ++ (zs z 20 8 ++ [u_r]))) ?_
  refine wpL.done ?_
  refine then_n ?_
  refine forget (fun zf35 => ([(zf35 0), (zf35 1), u_r, u_r, (eN (orb (n % 255).toNat i))] ++ (zs zf35 5 24))) (by kernel_rfl) (fun zf35 => ?_)
  refine wpIn_ret ?_
  refine leave0 (v := u_r) (res1 Try.results95 rfl) ?_
  exact ROw.mk_ a17 (by rw [ref3min_done n hi c0]) q_oW_r oW
 refine wp_eq (l' := ([(eN ((n % 255).toNat)), undef, (Value.slice none 0 0), undef, undef, (eI n), (eN ((n % 255).toNat)), (eN ((n % 255).toNat)), (Value.bool (decide (Int.tmod n 255 < 0)))] ++ (us 20))) (Eq.trans (Eq.trans (show (([(eI (Int.tmod n 255)), undef, (Value.slice none 0 0), undef, undef, (eI n), (eI (Int.tmod n 255)), (eI (Int.tmod n 255)), (Value.bool (decide (Int.tmod n 255 < 0)))] ++ (us 20)) : List Value) = ([(eN ((n % 255).toNat)), undef, (Value.slice none 0 0), undef, undef, (eI n), (eI (Int.tmod n 255)), (eI (Int.tmod n 255)), (Value.bool (decide (Int.tmod n 255 < 0)))] ++ (us 20)) from reslot ([(eI (Int.tmod n 255)), undef, (Value.slice none 0 0), undef, undef, (eI n), (eI (Int.tmod n 255)), (eI (Int.tmod n 255)), (Value.bool (decide (Int.tmod n 255 < 0)))] ++ (us 20)) 0 (tm_pos k1)) (show (([(eN ((n % 255).toNat)), undef, (Value.slice none 0 0), undef, undef, (eI n), (eI (Int.tmod n 255)), (eI (Int.tmod n 255)), (Value.bool (decide (Int.tmod n 255 < 0)))] ++ (us 20)) : List Value) = ([(eN ((n % 255).toNat)), undef, (Value.slice none 0 0), undef, undef, (eI n), (eN ((n % 255).toNat)), (eI (Int.tmod n 255)), (Value.bool (decide (Int.tmod n 255 < 0)))] ++ (us 20)) from reslot ([(eN ((n % 255).toNat)), undef, (Value.slice none 0 0), undef, undef, (eI n), (eI (Int.tmod n 255)), (eI (Int.tmod n 255)), (Value.bool (decide (Int.tmod n 255 < 0)))] ++ (us 20)) 6 (tm_pos k1))) (show (([(eN ((n % 255).toNat)), undef, (Value.slice none 0 0), undef, undef, (eI n), (eN ((n % 255).toNat)), (eI (Int.tmod n 255)), (Value.bool (decide (Int.tmod n 255 < 0)))] ++ (us 20)) : List Value) = ([(eN ((n % 255).toNat)), undef, (Value.slice none 0 0), undef, undef, (eI n), (eN ((n % 255).toNat)), (eN ((n % 255).toNat)), (Value.bool (decide (Int.tmod n 255 < 0)))] ++ (us 20)) from reslot ([(eN ((n % 255).toNat)), undef, (Value.slice none 0 0), undef, undef, (eI n), (eN ((n % 255).toNat)), (eI (Int.tmod n 255)), (Value.bool (decide (Int.tmod n 255 < 0)))] ++ (us 20)) 7 (tm_pos k1))) ?_
 refine wpIn_skip ?_
 refine then_n ?_
 refine wpIn_seq ?_
 refine plain ?_
 refine wI (d_move rfl) ?_
 refine wO (d_call (xl := [.tmp 11]) (al := [(eN ((n % 255).toNat))]) Try.func114 (by kernel_rfl) rfl rfl rfl (ref2Exp_ok (((n % 255).toNat : Nat) : Int) _)) ?_
 rintro _ w36 ⟨rfl, o37⟩
 replace oW := oW.tail0 o37
 refine wO (d_buildL (cs := [(eB (exI (((n % 255).toNat : Nat) : Int))), (eB 1)]) Try.underlying22 s_ti5 rfl (nb rfl) (parts_cons (vs := [(eB (exI (((n % 255).toNat : Nat) : Int)))]) (cells_of (v := (eB (exI (((n % 255).toNat : Nat) : Int)))) rfl rfl) (parts_cons (vs := [(eB 1)]) (cells_of (v := (eB 1)) rfl rfl) parts_nil)) rfl) ?_
 rintro _ w38 ⟨o, rfl, g39, a40, o41⟩
 replace a40 : Arr 5 o (([exI (((n % 255).toNat : Nat) : Int), 1] : List UInt8).map eB) w38 := a40
 have l_o : ([exI (((n % 255).toNat : Nat) : Int), 1] : List UInt8).length = 2 := rfl
 have g_oW_o : W.heap.size ≤ o := Nat.le_trans oW.size g39
 replace oW := oW.tail0 o41
 refine wF ([(eN ((n % 255).toNat)), undef, (Value.slice none 0 0), undef, undef, (eI n), (eN ((n % 255).toNat)), (eN ((n % 255).toNat)), (Value.bool (decide (Int.tmod n 255 < 0))), undef, undef, (eN ((n % 255).toNat)), (eB (exI (((n % 255).toNat : Nat) : Int))), (sli o 0 2 2)] ++ (us 15)) ?_
 refine wI (d_assign rfl) ?_
 refine wF ([(eN ((n % 255).toNat)), undef, (Value.slice none 0 0), (sli o 0 2 2), undef, (eI n), (eN ((n % 255).toNat)), (eN ((n % 255).toNat)), (Value.bool (decide (Int.tmod n 255 < 0))), undef, undef, (eN ((n % 255).toNat)), (eB (exI (((n % 255).toNat : Nat) : Int))), (sli o 0 2 2)] ++ (us 15)) ?_
 refine wpL.done ?_
 have a42 := Ow.of_map2 a40 l_o
 have q_oW_r : Fr (some o) none W.heap.size := Fr.new g_oW_o
 refine then_n ?_
 refine forget (fun zf43 => ([(eN ((n % 255).toNat)), (zf43 1), (zf43 2), (sli o 0 2 2), undef] ++ (zs zf43 5 24))) (by kernel_rfl) (fun zf43 => ?_)
 refine wpIn_seq ?_
 refine wpIn_seq ?_
 refine plain ?_
 refine wI (d_move rfl) ?_
 refine wI (n_mul (a := 2) (b := ((n % 255).toNat)) rfl rfl (by have := toNat255 n; omega)) ?_
 refine wI (n_rem (a := (2 * ((n % 255).toNat))) (b := 255) rfl rfl (by decide)) ?_
 refine wF ([(eN ((n % 255).toNat)), (zf43 1), (zf43 2), (sli o 0 2 2), undef] ++ (zs zf43 5 9 ++ [(eN ((n % 255).toNat)), (eN (2 * ((n % 255).toNat))), (eN ((2 * ((n % 255).toNat)) % 255))] ++ (zs zf43 17 12))) ?_
 refine wI (d_assign rfl) ?_
 refine wF ([(eN ((n % 255).toNat)), (zf43 1), (zf43 2), (sli o 0 2 2), (eN ((2 * ((n % 255).toNat)) % 255))] ++ (zs zf43 5 9 ++ [(eN ((n % 255).toNat)), (eN (2 * ((n % 255).toNat))), (eN ((2 * ((n % 255).toNat)) % 255))] ++ (zs zf43 17 12))) ?_
 refine wpL.done ?_
 refine fr_eq (l' := ([(eN ((n % 255).toNat)), (zf43 1), (zf43 2), (sli o 0 2 2), (eN (orb (n % 255).toNat 1))] ++ (zs zf43 5 9 ++ [(eN ((n % 255).toNat)), (eN (2 * ((n % 255).toNat))), (eN ((2 * ((n % 255).toNat)) % 255))] ++ (zs zf43 17 12)))) (show (([(eN ((n % 255).toNat)), (zf43 1), (zf43 2), (sli o 0 2 2), (eN ((2 * ((n % 255).toNat)) % 255))] ++ (zs zf43 5 9 ++ [(eN ((n % 255).toNat)), (eN (2 * ((n % 255).toNat))), (eN ((2 * ((n % 255).toNat)) % 255))] ++ (zs zf43 17 12))) : List Value) = ([(eN ((n % 255).toNat)), (zf43 1), (zf43 2), (sli o 0 2 2), (eN (orb (n % 255).toNat 1))] ++ (zs zf43 5 9 ++ [(eN ((n % 255).toNat)), (eN (2 * ((n % 255).toNat))), (eN ((2 * ((n % 255).toNat)) % 255))] ++ (zs zf43 17 12))) from reslot ([(eN ((n % 255).toNat)), (zf43 1), (zf43 2), (sli o 0 2 2), (eN ((2 * ((n % 255).toNat)) % 255))] ++ (zs zf43 5 9 ++ [(eN ((n % 255).toNat)), (eN (2 * ((n % 255).toNat))), (eN ((2 * ((n % 255).toNat)) % 255))] ++ (zs zf43 17 12))) 4 (congrArg eN (orb_one (toNat255 n)))) ?_
 refine then_n ?_
 refine wpIn_block ?_
 have h_lts_r := a42.lts
 refine loop2 (fun (s_ : (Nat) × (Option Nat) × (Value)) => match s_ with | ⟨i, bo_r, u_r⟩ => fun (z : Nat → Value) => (([(eN ((n % 255).toNat)), (zf43 1), (zf43 2), u_r, (eN (orb (n % 255).toNat i))] ++ (zs zf43 5 9 ++ [(eN ((n % 255).toNat)), (eN (2 * ((n % 255).toNat))), (eN ((2 * ((n % 255).toNat)) % 255))] ++ (zs z 17 11 ++ [(zf43 28)]))) : List Value)) (fun (s_ : (Nat) × (Option Nat) × (Value)) => match s_ with | ⟨i, bo_r, u_r⟩ => fun (w_ : World) => (0 < i ∧ i ≤ per (n % 255).toNat) ∧ Only (Orq (some o) No) w38 w_ ∧ Ow 5 1 bo_r u_r (minL ((orbit (n % 255).toNat).take i)).length ((minL ((orbit (n % 255).toNat).take i)).map eB) w_ ∧ Fr bo_r (some o) w38.heap.size) (fun (s_ : (Nat) × (Option Nat) × (Value)) => match s_ with | ⟨i, bo_r, u_r⟩ => 8 - i) ⟨1, (some o), (sli o 0 2 2)⟩ rfl ?_ ?_
 ·
  refine ⟨?_, ?_, ?_, ?_⟩
  ·
   (try dsimp only)
   all_goals (have := per_pos (n % 255).toNat; omega)
  ·
   exact Only.refl _ _
  ·
   (try dsimp only)
   all_goals (rw [minL_first (toNat255 n), ← exI_nat]; exact a42)
  ·
   exact Fr.same
 rintro ⟨i, bo_r, u_r⟩ z w45 ⟨hi, o44, a42, qq_r⟩
 (try dsimp only)
 have tq_oW := oW.size
 replace oW := oW.tail o44 (tl_q q_oW_r (fun _ e => by cases e) tl_no)
 replace q_oW_r := qtr qq_r q_oW_r tq_oW
 have q_o44_r := qq_r
 refine wpIn_seq ?_
 refine wpIn_seq ?_
 refine plain ?_
 refine wI (d_move rfl) ?_
 refine wI (d_move rfl) ?_
 refine wI (n_neq (a := (orb (n % 255).toNat i)) (b := ((n % 255).toNat)) rfl rfl rfl) ?_
 refine wF ([(eN ((n % 255).toNat)), (zf43 1), (zf43 2), u_r, (eN (orb (n % 255).toNat i))] ++ (zs zf43 5 9 ++ [(eN ((n % 255).toNat)), (eN (2 * ((n % 255).toNat))), (eN ((2 * ((n % 255).toNat)) % 255)), (eN (orb (n % 255).toNat i)), (eN ((n % 255).toNat)), (Value.bool (!decide ((orb (n % 255).toNat i) = ((n % 255).toNat))))] ++ (zs z 20 8 ++ [(zf43 28)]))) ?_
 refine wpL.done ?_
 refine then_n ?_
 refine cond_un rfl (fun c0 => ?_) (fun c0 => ?_)
 ·
  refine wpIn_skip ?_
  refine then_n ?_
  refine wpIn_seq ?_
  refine wpIn_block ?_
  have hl_ := minL_take (n % 255).toNat i
  have hp_ := per_le (n % 255).toNat
  refine plain ?_
  refine wI (d_move rfl) ?_
  refine wI (d_move rfl) ?_
  refine wO (d_call (xl := [.tmp 24]) (al := [(eN (orb (n % 255).toNat i))]) Try.func114 (by kernel_rfl) rfl rfl rfl (ref2Exp_ok ((orb (n % 255).toNat i : Nat) : Int) _)) ?_
  rintro _ w46 ⟨rfl, o47⟩
  replace a42 := a42.step0 o47
  replace oW := oW.tail0 o47
  replace o44 := o44.tail0 o47
  refine wF ([(eN ((n % 255).toNat)), (zf43 1), (zf43 2), u_r, (eN (orb (n % 255).toNat i))] ++ (zs zf43 5 9 ++ [(eN ((n % 255).toNat)), (eN (2 * ((n % 255).toNat))), (eN ((2 * ((n % 255).toNat)) % 255)), (eN (orb (n % 255).toNat i)), (eN ((n % 255).toNat)), (Value.bool (!decide ((orb (n % 255).toNat i) = ((n % 255).toNat)))), (z 20), (z 21), (z 22), u_r, (eN (orb (n % 255).toNat i)), (eB (exI ((orb (n % 255).toNat i : Nat) : Int))), (z 26), (z 27), (zf43 28)])) ?_
  refine wO (d_buildL (cs := [(eB (exI ((orb (n % 255).toNat i : Nat) : Int))), (eB 1)]) Try.underlying22 s_ti5 rfl (nb rfl) (parts_cons (vs := [(eB (exI ((orb (n % 255).toNat i : Nat) : Int)))]) (cells_of (v := (eB (exI ((orb (n % 255).toNat i : Nat) : Int)))) rfl rfl) (parts_cons (vs := [(eB 1)]) (cells_of (v := (eB 1)) rfl rfl) parts_nil)) rfl) ?_
  rintro _ w49 ⟨b48, rfl, g50, a51, o52⟩
  replace a51 : Arr 5 b48 (([exI ((orb (n % 255).toNat i : Nat) : Int), 1] : List UInt8).map eB) w49 := a51
  have l_b48 : ([exI ((orb (n % 255).toNat i : Nat) : Int), 1] : List UInt8).length = 2 := rfl
  have nq_r_b48 : ∀ x, bo_r = some x → ¬ x = b48 := fun x hx e => by have := a42.lts x hx; omega
  have g_oW_b48 : W.heap.size ≤ b48 := Nat.le_trans oW.size g50
  have g_o44_b48 : w38.heap.size ≤ b48 := Nat.le_trans o44.size g50
  replace a42 := a42.step0 o52
  replace oW := oW.tail0 o52
  replace o44 := o44.tail0 o52
  refine wO (d_call (xl := [.tmp 23, .tmp 26]) (al := [u_r, (sli b48 0 2 2)]) Try.func94 (by kernel_rfl) rfl rfl rfl (ref3Mul_ok (minL ((orbit (n % 255).toNat).take i)) ([exI ((orb (n % 255).toNat i : Nat) : Int), 1] : List UInt8) u_r (sli b48 0 2 2) _ (Ps.no (a42.seq (X := No) (fun _ _ h => h))) (Ps.no (arr_seq a51 l_b48 (Nat.le_refl _))) (by first | omega | (simp; done) | (simp; omega)) (by first | omega | (simp; done) | (simp; omega)))) ?_
  rintro u55 w53 f56
  obtain ⟨bo57, f56, g58, o54⟩ := f56
  have nq_r2_b48 := nq_new g58 a51.lt
  have nqq_r_r2 := nqq_new g58 a42.lts
  have q_oW_r2 := qnew g58 oW.size
  have q_o44_r2 := qnew g58 o44.size
  replace a51 := a51.step0 o54
  replace a42 := a42.step0 o54
  replace oW := oW.tail0 o54
  replace o44 := o44.tail0 o54
  refine wI (d_assign rfl) ?_
  refine wF ([(eN ((n % 255).toNat)), (zf43 1), (zf43 2), u55, (eN (orb (n % 255).toNat i))] ++ (zs zf43 5 9 ++ [(eN ((n % 255).toNat)), (eN (2 * ((n % 255).toNat))), (eN ((2 * ((n % 255).toNat)) % 255)), (eN (orb (n % 255).toNat i)), (eN ((n % 255).toNat)), (Value.bool (!decide ((orb (n % 255).toNat i) = ((n % 255).toNat)))), (z 20), (z 21), (z 22), u_r, (eN (orb (n % 255).toNat i)), (eB (exI ((orb (n % 255).toNat i : Nat) : Int))), (sli b48 0 2 2), u55, (zf43 28)])) ?_
  refine wpL.done ?_
  refine inb_n (then_n ?_)
  refine forget (fun zf59 => ([(eN ((n % 255).toNat)), (zf43 1), (zf43 2), u55, (eN (orb (n % 255).toNat i))] ++ (zs zf43 5 9 ++ [(eN ((n % 255).toNat)), (eN (2 * ((n % 255).toNat))), (eN ((2 * ((n % 255).toNat)) % 255))] ++ (zs zf59 17 11 ++ [(zf43 28)])))) (by kernel_rfl) (fun zf59 => ?_)
  refine plain ?_
  refine wI (d_move rfl) ?_
  refine wI (n_mul (a := 2) (b := (orb (n % 255).toNat i)) rfl rfl (by have := orb_lt (n % 255).toNat i; omega)) ?_
  refine wI (n_rem (a := (2 * (orb (n % 255).toNat i))) (b := 255) rfl rfl (by decide)) ?_
  refine wF ([(eN ((n % 255).toNat)), (zf43 1), (zf43 2), u55, (eN (orb (n % 255).toNat i))] ++ (zs zf43 5 9 ++ [(eN ((n % 255).toNat)), (eN (2 * ((n % 255).toNat))), (eN ((2 * ((n % 255).toNat)) % 255)), (zf59 17), (zf59 18), (zf59 19), (eN (orb (n % 255).toNat i)), (eN (2 * (orb (n % 255).toNat i))), (eN ((2 * (orb (n % 255).toNat i)) % 255))] ++ (zs zf59 23 5 ++ [(zf43 28)]))) ?_
  refine wI (d_assign rfl) ?_
  refine wF ([(eN ((n % 255).toNat)), (zf43 1), (zf43 2), u55, (eN ((2 * (orb (n % 255).toNat i)) % 255))] ++ (zs zf43 5 9 ++ [(eN ((n % 255).toNat)), (eN (2 * ((n % 255).toNat))), (eN ((2 * ((n % 255).toNat)) % 255)), (zf59 17), (zf59 18), (zf59 19), (eN (orb (n % 255).toNat i)), (eN (2 * (orb (n % 255).toNat i))), (eN ((2 * (orb (n % 255).toNat i)) % 255))] ++ (zs zf59 23 5 ++ [(zf43 28)]))) ?_
  refine wpL.done ?_
  refine then_n ?_
  refine ⟨([(eN ((n % 255).toNat)), (zf43 1), (zf43 2), u55, (eN (orb (n % 255).toNat (i + 1)))] ++ (zs zf43 5 9 ++ [(eN ((n % 255).toNat)), (eN (2 * ((n % 255).toNat))), (eN ((2 * ((n % 255).toNat)) % 255)), (zf59 17), (zf59 18), (zf59 19), (eN (orb (n % 255).toNat i)), (eN (2 * (orb (n % 255).toNat i))), (eN ((2 * (orb (n % 255).toNat i)) % 255))] ++ (zs zf59 23 5 ++ [(zf43 28)]))), ⟨i + 1, bo57, u55⟩, (congrArg (fun l_ => fr l_ _) (show (([(eN ((n % 255).toNat)), (zf43 1), (zf43 2), u55, (eN ((2 * (orb (n % 255).toNat i)) % 255))] ++ (zs zf43 5 9 ++ [(eN ((n % 255).toNat)), (eN (2 * ((n % 255).toNat))), (eN ((2 * ((n % 255).toNat)) % 255)), (zf59 17), (zf59 18), (zf59 19), (eN (orb (n % 255).toNat i)), (eN (2 * (orb (n % 255).toNat i))), (eN ((2 * (orb (n % 255).toNat i)) % 255))] ++ (zs zf59 23 5 ++ [(zf43 28)]))) : List Value) = ([(eN ((n % 255).toNat)), (zf43 1), (zf43 2), u55, (eN (orb (n % 255).toNat (i + 1)))] ++ (zs zf43 5 9 ++ [(eN ((n % 255).toNat)), (eN (2 * ((n % 255).toNat))), (eN ((2 * ((n % 255).toNat)) % 255)), (zf59 17), (zf59 18), (zf59 19), (eN (orb (n % 255).toNat i)), (eN (2 * (orb (n % 255).toNat i))), (eN ((2 * (orb (n % 255).toNat i)) % 255))] ++ (zs zf59 23 5 ++ [(zf43 28)]))) from reslot ([(eN ((n % 255).toNat)), (zf43 1), (zf43 2), u55, (eN ((2 * (orb (n % 255).toNat i)) % 255))] ++ (zs zf43 5 9 ++ [(eN ((n % 255).toNat)), (eN (2 * ((n % 255).toNat))), (eN ((2 * ((n % 255).toNat)) % 255)), (zf59 17), (zf59 18), (zf59 19), (eN (orb (n % 255).toNat i)), (eN (2 * (orb (n % 255).toNat i))), (eN ((2 * (orb (n % 255).toNat i)) % 255))] ++ (zs zf59 23 5 ++ [(zf43 28)]))) 4 (congrArg eN (orb_succ (n % 255).toNat i)))), rfl, ⟨?_, ?_, ?_, ?_⟩, ?_⟩
  ·
   exact ref3min_step n hi c0
  ·
   exact o44
  ·
   (try dsimp only)
   all_goals (rw [← minL_next n hi c0, ← exI_nat]; exact f56)
  ·
   exact fun c hc => (q_o44_r2 c hc).elim (fun h => by cases h) .inr
  ·
   (try dsimp only)
   all_goals (have := ref3min_step n hi c0; omega)
 refine wpIn_exit ?_
 refine then_x (then_x (inb_e ?_))
 refine then_n ?_
 refine wpIn_seq ?_
 refine plain ?_
 refine wI (d_move rfl) ?_
 refine wI (d_assign rfl) ?_
 refine wF ([(eN ((n % 255).toNat)), (zf43 1), u_r, u_r, (eN (orb (n % 255).toNat i))] ++ (zs zf43 5 9 ++ [(eN ((n % 255).toNat)), (eN (2 * ((n % 255).toNat))), (eN ((2 * ((n % 255).toNat)) % 255)), (eN (orb (n % 255).toNat i)), (eN ((n % 255).toNat)), (Value.bool (!decide ((orb (n % 255).toNat i) = ((n % 255).toNat))))] ++ (zs z 20 8 ++ [u_r]))) ?_
 refine wpL.done ?_
 refine then_n ?_
 refine forget (fun zf60 => ([(zf60 0), (zf60 1), u_r, u_r, (eN (orb (n % 255).toNat i))] ++ (zs zf60 5 24))) (by kernel_rfl) (fun zf60 => ?_)
 refine wpIn_ret ?_
 refine leave0 (v := u_r) (res1 Try.results95 rfl) ?_
 exact ROw.mk_ a42 (by rw [ref3min_done n hi c0]) q_oW_r oW

end Go.Proofs.YtgalehapmdabeaaF
