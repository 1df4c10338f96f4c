import Derived.Test.YtnlbekdjepkhcaaFr
import Derived.Test.YtnlbekdjepkhcaaTy
import Derived.Test.YtnlbekdjepkhcaaHbits
import Derived.Test.YtnlbekdjepkhcaaGm
import Derived.Test.YtnlbekdjepkhcaaGq
set_option linter.unusedVariables false
set_option linter.unusedSimpArgs false
namespace Go.Proofs.YtnlbekdjepkhcaaF
open Go Go.Shelf Go.Proofs.YtnlbekdjepkhcaaS Ram
set_option maxRecDepth 20000 in
set_option maxHeartbeats 1000000 in
theorem indexP_ok (bad : List (Int × Int)) (ub : Value) (W : World) (hb : Ps No (Seq (kA 2 eQ) bad ub) W) (gb : bad.length ≤ 1000000000) (x y : Int) :
    CW Try.prog 55 #[ub, (Value.agg #[(eI x), (eI y)])] W (Rt (fun u w => ∃ k : Int, u = eI k ∧ (0 ≤ k ↔ (x, y) ∈ bad) ∧ Only No W w)) := by
 have oW : Only No W W := Only.refl _ _
 refine enter (al := [ub, (Value.agg #[(eI x), (eI y)])]) (k := 17) (l := ([ub, (Value.agg #[(eI x), (eI y)])] ++ (us 17))) Try.func55 rfl Try.ntmps55 rfl rfl ?_
 refine wpIn_seq ?_
 refine plain ?_
 refine wO (d_box rfl rfl) ?_
 rintro _ w11 ⟨pb, rfl, g12, a13, o14⟩
 have g_oW_pb : W.heap.size ≤ pb := Nat.le_trans oW.size g12
 replace hb := hb.new o14 g12
 replace oW := oW.tail0 o14
 refine wI (d_assign rfl) ?_
 refine wF ([ub, (Value.agg #[(eI x), (eI y)]), undef, (ptr pb 0), (eN 0)] ++ (us 14)) ?_
 refine wpL.done ?_
 refine then_n ?_
 refine wpIn_seq ?_
 refine wpIn_seq ?_
 refine plain ?_
 refine wI (d_move rfl) ?_
 refine wI (d_lenS rfl Try.underlying42 rfl hb) ?_
 refine wI (d_move rfl) ?_
 refine wF ([ub, (Value.agg #[(eI x), (eI y)]), undef, (ptr pb 0), (eN 0), undef, ub, (eN bad.length), (eN 0)] ++ (us 10)) ?_
 refine wpL.done ?_
 refine then_n ?_
 refine wpIn_block ?_
 refine loop2 (fun (i : (Nat)) => fun (z : Nat → Value) => (([ub, (Value.agg #[(eI x), (eI y)]), undef, (ptr pb 0), (z 4), (z 5), ub, (eN bad.length), (eN i)] ++ (zs z 9 10)) : List Value)) (fun (i : (Nat)) => fun (w_ : World) => (i ≤ bad.length) ∧ (∀ j, j < i → bad.getD j (0, 0) ≠ (x, y)) ∧ Only (Or1 pb No) w11 w_ ∧ Arr 53 pb [(eI x), (eI y)] w_) (fun (i : (Nat)) => bad.length - i) 0 rfl ?_ ?_
 ·
  refine ⟨?_, ?_, ?_, ?_⟩
  ·
   exact Nat.zero_le _
  ·
   exact fun j hj => absurd hj (Nat.not_lt_zero j)
  ·
   exact Only.refl _ _
  ·
   exact a13
 rintro i z w16 ⟨hi, hno, o15, a13⟩
 (try dsimp only)
 replace hb := hb.step o15 (or1_mono no_any)
 replace oW := oW.tail o15 (tl_new g_oW_pb tl_no)
 refine wpIn_seq ?_
 refine plain ?_
 refine wI (n_lss (a := i) (b := bad.length) rfl rfl rfl) ?_
 refine wF ([ub, (Value.agg #[(eI x), (eI y)]), undef, (ptr pb 0), (z 4), (z 5), ub, (eN bad.length), (eN i), (Value.bool (decide (i < bad.length)))] ++ (zs z 10 9)) ?_
 refine wpL.done ?_
 refine then_n ?_
 refine wpIn_seq ?_
 refine cond_if rfl (fun c0 => ?_) (fun c0 => ?_)
 ·
  refine wpIn_skip ?_
  refine then_n ?_
  refine wpIn_seq ?_
  refine wpIn_block ?_
  refine wpIn_seq ?_
  refine plain ?_
  refine wI (d_move rfl) ?_
  refine wI (d_assign rfl) ?_
  refine wF ([ub, (Value.agg #[(eI x), (eI y)]), undef, (ptr pb 0), (z 4), (eN i), ub, (eN bad.length), (eN i), (Value.bool (decide (i < bad.length))), (eN i)] ++ (zs z 11 8)) ?_
  refine wpL.done ?_
  refine then_n ?_
  refine wpIn_seq ?_
  refine drawn' (O := (Or1 pb No)) (n := 6) [0, 0, 0, 6, 14, 31] [(0, 11), (1, 12), (2, 13), (3, 14), (4, 15), (5, 16)] [0, 1, 2, 3, 4, 5] [] (fun i_ => ([RF.is (Or1 pb No) (Value.agg #[(eI x), (eI y)]), RF.is (Or1 pb No) ub, RF.is (Or1 pb No) (eN i), RF.ps (Or1 pb No) (Or1 pb No) (At (kA 2 eQ) (bad.getD i (0, 0))) (or1_mono no_any), RF.is (Or1 pb No) (Value.agg #[(eI ((bad.getD i (0, 0)).1)), (eI ((bad.getD i (0, 0)).2))]), RF.is (Or1 pb No) (Value.bool (decide (x = ((bad.getD i (0, 0)).1) ∧ y = ((bad.getD i (0, 0)).2))))] : List (RF (Or1 pb No))).getD i_ (RF.any (Or1 pb No))) (fun _ w_ => Arr 53 pb [(eI x), (eI y)] w_) (fun v17 => [ub, (Value.agg #[(eI x), (eI y)]), undef, (ptr pb 0), (z 4), (eN i), ub, (eN bad.length), (eN i), (Value.bool (decide (i < bad.length))), (eN i), (v17 0), (v17 1), (v17 2), (v17 3), (v17 4), (v17 5), (z 17), (z 18)]) s_mx (by kernel_rfl) rfl (by kernel_rfl) (by rfl) (fun v_ => by kernel_rfl) (fun _ => fun w_ w2_ h ho => by have r_a13 := h; exact r_a13.step0 ho) a13 ?_ ?_ ?_
  ·
   refine ls_cons ?_ ?_
   ·
    intro v17 lo hi w_ k_ hO hd _ _ hk_ _ hR hold
    have r_a13 := hR
    clear hd hold
    refine ⟨_, rfl, gd rfl ?_⟩
    exact Does.is (d_loadAg (vs := [(eI x), (eI y)]) ⟨_, Try.underlying53, rfl⟩ s_ti53 rfl r_a13 rfl rfl)
   refine ls_cons ?_ ?_
   ·
    intro v17 lo hi w_ k_ hO hd _ _ hk_ _ hR hold
    have r_a13 := hR
    clear hd hold
    refine ⟨_, rfl, gd rfl ?_⟩
    exact Does.is (d_move rfl)
   refine ls_cons ?_ ?_
   ·
    intro v17 lo hi w_ k_ hO hd _ _ hk_ _ hR hold
    have r_a13 := hR
    clear hd hold
    refine ⟨_, rfl, gd rfl ?_⟩
    exact Does.is (d_move rfl)
   refine ls_cons ?_ ?_
   ·
    intro v17 lo hi w_ k_ hO hd _ _ hk_ _ hR hold
    have r_a13 := hR
    have e1 : v17 1 = ub := hd 1 (by kernel_rfl)
    have e2 : v17 2 = (eN i) := hd 2 (by kernel_rfl)
    clear hd hold
    refine ⟨_, rfl, gd rfl ?_⟩
    refine Does.mono (d_indexS (q := (kA 2 eQ)) (xs := bad) (v := (bad.getD i (0, 0))) Try.underlying42 s_ti53 e1 (hb.step hO (or1_mono no_any)) (show _ = Value.int _ ((i : Nat) : Int) from e2) (by omega) (g_at (by first | omega | (simp; done) | (simp; omega)))) (fun u w' h => ⟨h.2 ▸ h.1, h.2 ▸ Only.refl _ _⟩)
   refine ls_cons ?_ ?_
   ·
    intro v17 lo hi w_ k_ hO hd _ _ hk_ _ hR hold
    have r_a13 := hR
    have d3 : Ps (Or1 pb No) (At (kA 2 eQ) (bad.getD i (0, 0)) (v17 3)) w_ := hd 3 (by kernel_rfl)
    clear hd hold
    refine ⟨_, rfl, gd rfl ?_⟩
    exact Does.is (d_loadAtA (enc := eQ) (v := (bad.getD i (0, 0))) ⟨_, Try.underlying53, rfl⟩ s_ti53 rfl d3)
   refine ls_cons ?_ ?_
   ·
    intro v17 lo hi w_ k_ hO hd _ _ hk_ _ hR hold
    have r_a13 := hR
    have e0 : v17 0 = (Value.agg #[(eI x), (eI y)]) := hd 0 (by kernel_rfl)
    have e4 : v17 4 = (Value.agg #[(eI ((bad.getD i (0, 0)).1)), (eI ((bad.getD i (0, 0)).2))]) := hd 4 (by kernel_rfl)
    clear hd hold
    refine ⟨_, rfl, gd rfl ?_⟩
    exact Does.is (d_eqlPair (a := x) (b := y) (c := ((bad.getD i (0, 0)).1)) (d := ((bad.getD i (0, 0)).2)) Try.underlying53 Try.underlying3 s_ti3 (by kernel_rfl) (by kernel_rfl) e0 e4 rfl)
   exact ls_nil
  ·
   exact ms_nil
  intro v17 lo_ hi_ w18 o19 hd iv_ hR
  have e0 : v17 0 = (Value.agg #[(eI x), (eI y)]) := hd 0 (by decide)
  have e1 : v17 1 = ub := hd 1 (by decide)
  have e2 : v17 2 = (eN i) := hd 2 (by decide)
  have e4 : v17 4 = (Value.agg #[(eI ((bad.getD i (0, 0)).1)), (eI ((bad.getD i (0, 0)).2))]) := hd 4 (by decide)
  have e5 : v17 5 = (Value.bool (decide (x = ((bad.getD i (0, 0)).1) ∧ y = ((bad.getD i (0, 0)).2)))) := hd 5 (by decide)
  have f_v17_3 : Ps (Or1 pb No) (At (kA 2 eQ) (bad.getD i (0, 0)) (v17 3)) w18 := hd 3 (by decide)
  clear hd iv_ lo_ hi_
  refine fr_eq (l' := [ub, (Value.agg #[(eI x), (eI y)]), undef, (ptr pb 0), (z 4), (eN i), ub, (eN bad.length), (eN i), (Value.bool (decide (i < bad.length))), (eN i), (Value.agg #[(eI x), (eI y)]), ub, (eN i), (v17 3), (Value.agg #[(eI ((bad.getD i (0, 0)).1)), (eI ((bad.getD i (0, 0)).2))]), (Value.bool (decide (x = ((bad.getD i (0, 0)).1) ∧ y = ((bad.getD i (0, 0)).2)))), (z 17), (z 18)]) (by rw [e0, e1, e2, e4, e5] <;> rfl) ?_
  clear e0 e1 e2 e4 e5
  replace hb := hb.step o19 (or1_mono no_any)
  replace a13 : Arr 53 pb [(eI x), (eI y)] w18 := hR
  clear hR
  replace oW := oW.tail o19 (tl_new g_oW_pb tl_no)
  replace o15 := o15.tail o19 (tl_in in1 tl_no)
  refine then_n ?_
  refine cond_if rfl (fun c1 => ?_) (fun c1 => ?_)
  ·
   refine wpIn_seq ?_
   refine plain ?_
   refine wI (d_move rfl) ?_
   refine wI (d_assign rfl) ?_
   refine wF [ub, (Value.agg #[(eI x), (eI y)]), undef, (ptr pb 0), (eN i), (eN i), ub, (eN bad.length), (eN i), (Value.bool (decide (i < bad.length))), (eN i), (Value.agg #[(eI x), (eI y)]), ub, (eN i), (v17 3), (Value.agg #[(eI ((bad.getD i (0, 0)).1)), (eI ((bad.getD i (0, 0)).2))]), (Value.bool (decide (x = ((bad.getD i (0, 0)).1) ∧ y = ((bad.getD i (0, 0)).2)))), (eN i), (z 18)] ?_
   refine wpL.done ?_
   refine then_n ?_
   refine wpIn_ret ?_
   refine inb_r (then_r (then_r (inb_r (then_r ?_))))
   refine leave0 (v := (eN i)) (res1 Try.results55 rfl) ?_
   exact ⟨_, rfl, iff_of_true (Int.natCast_nonneg i) (pair_in (by omega) c1), oW⟩
  refine wpIn_skip ?_
  refine inb_n (then_n ?_)
  refine plain ?_
  refine wI (n_add (a := i) (b := 1) rfl rfl (by omega)) ?_
  refine wI (d_move rfl) ?_
  refine wF [ub, (Value.agg #[(eI x), (eI y)]), undef, (ptr pb 0), (z 4), (eN i), ub, (eN bad.length), (eN (i + 1)), (Value.bool (decide (i < bad.length))), (eN i), (Value.agg #[(eI x), (eI y)]), ub, (eN i), (v17 3), (Value.agg #[(eI ((bad.getD i (0, 0)).1)), (eI ((bad.getD i (0, 0)).2))]), (Value.bool (decide (x = ((bad.getD i (0, 0)).1) ∧ y = ((bad.getD i (0, 0)).2)))), (z 17), (eN (i + 1))] ?_
  refine wpL.done ?_
  refine then_n ?_
  refine ⟨_, (i + 1), rfl, rfl, ⟨?_, ?_, ?_, ?_⟩, ?_⟩
  ·
   (try dsimp only)
   all_goals (omega)
  ·
   exact pair_next hno c1
  ·
   exact o15
  ·
   exact a13
  ·
   (try dsimp only)
   all_goals (omega)
 refine wpIn_exit ?_
 refine then_x (then_x (inb_e ?_))
 refine then_n ?_
 refine wpIn_seq ?_
 refine plain ?_
 refine wI (d_assign rfl) ?_
 refine wF ([ub, (Value.agg #[(eI x), (eI y)]), undef, (ptr pb 0), (eI (-1)), (z 5), ub, (eN bad.length), (eN i), (Value.bool (decide (i < bad.length)))] ++ (zs z 10 9)) ?_
 refine wpL.done ?_
 refine then_n ?_
 refine wpIn_ret ?_
 refine leave0 (v := (eI (-1))) (res1 Try.results55 rfl) ?_
 exact ⟨_, rfl, iff_of_false (by decide) (pair_out (by omega) hno), oW⟩

set_option maxRecDepth 20000 in
set_option maxHeartbeats 1000000 in
theorem containsP_ok (bad : List (Int × Int)) (ub : Value) (W : World) (hb : Ps No (Seq (kA 2 eQ) bad ub) W) (gb : bad.length ≤ 1000000000) (x y : Int) :
    CW Try.prog 49 #[ub, (Value.agg #[(eI x), (eI y)])] W (Rt (RIs (.bool (decide ((x, y) ∈ bad))) W)) := by
 have oW : Only No W W := Only.refl _ _
 refine enter (al := [ub, (Value.agg #[(eI x), (eI y)])]) (k := 7) (l := ([ub, (Value.agg #[(eI x), (eI y)])] ++ (us 7))) Try.func49 rfl Try.ntmps49 rfl rfl ?_
 refine wpIn_seq ?_
 refine plain ?_
 refine wO (d_box rfl rfl) ?_
 rintro _ w11 ⟨pb, rfl, g12, a13, o14⟩
 have g_oW_pb : W.heap.size ≤ pb := Nat.le_trans oW.size g12
 replace hb := hb.new o14 g12
 replace oW := oW.tail0 o14
 refine wI (d_assign rfl) ?_
 refine wF [ub, (Value.agg #[(eI x), (eI y)]), undef, (ptr pb 0), (Value.bool false), undef, undef, undef, undef] ?_
 refine wpL.done ?_
 refine then_n ?_
 refine wpIn_seq ?_
 refine plain ?_
 refine wI (d_move rfl) ?_
 refine wI (d_loadAg (vs := [(eI x), (eI y)]) ⟨_, Try.underlying53, rfl⟩ s_ti53 rfl a13 rfl rfl) ?_
 refine wO (d_call (xl := [.tmp 5, .tmp 6]) (al := [ub, (Value.agg #[(eI x), (eI y)])]) Try.func55 (by kernel_rfl) rfl rfl rfl (indexP_ok bad ub _ (Ps.no hb) (by first | omega | (simp; done) | (simp; omega)) x y)) ?_
 rintro _ w15 ⟨k17, rfl, h18, o16⟩
 replace hb := hb.step0 o16
 replace a13 := a13.step0 o16
 replace oW := oW.tail0 o16
 refine wF [ub, (Value.agg #[(eI x), (eI y)]), undef, (ptr pb 0), (Value.bool false), ub, (Value.agg #[(eI x), (eI y)]), (eI k17), undef] ?_
 refine wI (d_geq (k := .i64) (m := k17) (n := 0) rfl rfl rfl) ?_
 refine wI (d_assign rfl) ?_
 refine wF [ub, (Value.agg #[(eI x), (eI y)]), undef, (ptr pb 0), (Value.bool (decide (0 ≤ k17))), ub, (Value.agg #[(eI x), (eI y)]), (eI k17), (Value.bool (decide (0 ≤ k17)))] ?_
 refine wpL.done ?_
 refine then_n ?_
 refine wpIn_ret ?_
 refine leave0 (v := (Value.bool (decide (0 ≤ k17)))) (res1 Try.results49 rfl) ?_
 exact ⟨congrArg Value.bool (by rw [decide_eq_decide]; exact h18), oW⟩

set_option maxRecDepth 20000 in
set_option maxHeartbeats 1000000 in
theorem isBad_ok (bad : List (Int × Int)) (ub : Value) (W : World) (hb : Ps No (Seq (kA 2 eQ) bad ub) W) (gb : bad.length ≤ 1000000000) (d b cb cd : Nat) (n_cb_cd : cb ≠ cd) (hcb : Arr 42 cb [ub] W) (hcd : Arr 3 cd [eN d] W) :
    CW Try.prog 48 #[(eN b), (ptr cb 0), (ptr cd 0)] W (Rt (RIs (.bool (isBadL bad d b)) W)) := by
 have oW : Only No W W := Only.refl _ _
 refine enter (al := [(eN b), (ptr cb 0), (ptr cd 0)]) (k := 7) (l := ([(eN b), (ptr cb 0), (ptr cd 0)] ++ (us 7))) Try.func48 rfl Try.ntmps48 rfl rfl ?_
 refine wpIn_seq ?_
 refine plain ?_
 refine wI (d_assign rfl) ?_
 refine wF ([(eN b), (ptr cb 0), (ptr cd 0), undef, (Value.bool false)] ++ (us 5)) ?_
 refine wpL.done ?_
 refine then_n ?_
 refine wpIn_seq ?_
 refine plain ?_
 refine wI (d_load (v := ub) ⟨_, Try.underlying42, rfl⟩ rfl hcb rfl) ?_
 refine wI (d_load (v := (eN d)) ⟨_, Try.underlying3, rfl⟩ rfl hcd rfl) ?_
 refine wI (d_move rfl) ?_
 refine wF [(eN b), (ptr cb 0), (ptr cd 0), undef, (Value.bool false), ub, (eN d), (eN b), undef, undef] ?_
 refine wI (d_buildA (zs := [(eN 0), (eN 0)]) (cs := [(eN d), (eN b)]) Try.underlying53 s_ti53 s_ti3 rfl (parts_cons (vs := [(eN d)]) (cells_of (v := (eN d)) rfl rfl) (parts_cons (vs := [(eN b)]) (cells_of (v := (eN b)) rfl rfl) parts_nil)) rfl) ?_
 refine wO (d_call (xl := [.tmp 5, .tmp 8]) (al := [ub, (Value.agg #[(eN d), (eN b)])]) Try.func49 (by kernel_rfl) rfl rfl rfl (containsP_ok bad ub _ (Ps.no hb) (by first | omega | (simp; done) | (simp; omega)) ((d : Nat) : Int) ((b : Nat) : Int))) ?_
 rintro _ w11 ⟨rfl, o12⟩
 replace hb := hb.step0 o12
 replace hcb := hcb.step0 o12
 replace hcd := hcd.step0 o12
 replace oW := oW.tail0 o12
 refine wI (d_assign rfl) ?_
 refine wF [(eN b), (ptr cb 0), (ptr cd 0), undef, (Value.bool (decide ((((d : Nat) : Int), ((b : Nat) : Int)) ∈ bad))), ub, (eN d), (eN b), (Value.agg #[(eN d), (eN b)]), (Value.bool (decide ((((d : Nat) : Int), ((b : Nat) : Int)) ∈ bad)))] ?_
 refine wpL.done ?_
 refine then_n ?_
 refine wpIn_ret ?_
 refine leave0 (v := (Value.bool (decide ((((d : Nat) : Int), ((b : Nat) : Int)) ∈ bad)))) (res1 Try.results48 rfl) ?_
 exact ⟨rfl, oW⟩


theorem isBad_to {P : Program} {f : Nat} {args : Array Value} {W : World} {b r : Bool} (h : CW P f args W (Rt (RIs (.bool b) W))) (e : b = r) : CW P f args W (Rt (RIs (.bool r) W)) := e ▸ h
set_option maxRecDepth 20000 in
set_option maxHeartbeats 1000000 in
theorem but_ok (n cb cd : Nat) (W : World) :
    CW Try.prog 47 #[(eN n), (Value.func (.func 48) #[] #[(ptr cb 0), (ptr cd 0)])] W (Rt (fun u w => ∃ x y, u = .func (.func 54) #[] #[ptr x 0, ptr y 0] ∧ W.heap.size ≤ x ∧ W.heap.size ≤ y ∧ x ≠ y ∧ Arr 3 x [eN n] w ∧ Arr 69 y [(.func (.func 48) #[] #[ptr cb 0, ptr cd 0])] w ∧ Only No W w)) := by
 have oW : Only No W W := Only.refl _ _
 refine enter (al := [(eN n), (Value.func (.func 48) #[] #[(ptr cb 0), (ptr cd 0)])]) (k := 4) (l := [(eN n), (Value.func (.func 48) #[] #[(ptr cb 0), (ptr cd 0)]), undef, undef, undef, undef]) Try.func47 rfl Try.ntmps47 rfl rfl ?_
 refine wpIn_seq ?_
 refine plain ?_
 refine wO (d_box rfl rfl) ?_
 rintro _ w11 ⟨x, rfl, g12, a13, o14⟩
 have g_oW_x : W.heap.size ≤ x := Nat.le_trans oW.size g12
 replace oW := oW.tail0 o14
 refine wO (d_box rfl rfl) ?_
 rintro _ w15 ⟨y, rfl, g16, a17, o18⟩
 have n_x_y : x ≠ y := a13.ne g16
 have g_oW_y : W.heap.size ≤ y := Nat.le_trans oW.size g16
 replace a13 := a13.step0 o18
 replace oW := oW.tail0 o18
 refine wI (d_assign rfl) ?_
 refine wF [(eN n), (Value.func (.func 48) #[] #[(ptr cb 0), (ptr cd 0)]), (ptr x 0), (ptr y 0), .nilFunc, undef] ?_
 refine wpL.done ?_
 refine then_n ?_
 refine wpIn_seq ?_
 refine plain ?_
 refine wI (d_funcL (yl := [.tmp 2, .tmp 3]) (ys := [(ptr x 0), (ptr y 0)]) rfl) ?_
 refine wI (d_assign rfl) ?_
 refine wF [(eN n), (Value.func (.func 48) #[] #[(ptr cb 0), (ptr cd 0)]), (ptr x 0), (ptr y 0), (Value.func (.func 54) #[] #[(ptr x 0), (ptr y 0)]), (Value.func (.func 54) #[] #[(ptr x 0), (ptr y 0)])] ?_
 refine wpL.done ?_
 refine then_n ?_
 refine wpIn_ret ?_
 refine leave0 (v := (Value.func (.func 54) #[] #[(ptr x 0), (ptr y 0)])) (res1 Try.results47 rfl) ?_
 exact ⟨x, y, rfl, g_oW_x, g_oW_y, n_x_y, a13, a17, oW⟩

set_option maxRecDepth 20000 in
set_option maxHeartbeats 1000000 in
theorem but1_ok {O X : Nat → Prop} {w0 : World} (bad : List (Int × Int)) (ub : Value) (n d xb yb cb cd l : Nat) (J Jx : List Nat → World → Prop) (W : World) (hxb : Arr 3 xb [eN n] W) (hyb : Arr 69 yb [(.func (.func 48) #[] #[ptr cb 0, ptr cd 0])] W) (hcb : Arr 42 cb [ub] W) (hcd : Arr 3 cd [eN d] W) (n_xb_yb : xb ≠ yb) (n_xb_cb : xb ≠ cb) (n_xb_cd : xb ≠ cd) (n_yb_cb : yb ≠ cb) (n_yb_cd : yb ≠ cd) (n_cb_cd : cb ≠ cd) (kxb : Kp O w0.heap.size xb) (kyb : Kp O w0.heap.size yb) (kcb : Kp O w0.heap.size cb) (kcd : Kp O w0.heap.size cd) (hbad : Ps (OrN X w0.heap.size) (Seq (kA 2 eQ) bad ub) W) (hX : ∀ k, O k → X k) (gb : bad.length ≤ 1000000000) (gn : n ≤ 1000) (SJ : ∀ pre W W', J pre W → Only No W W' → J pre W') (hyy : ∀ pre k, pre ++ [k] <+: goodL bad d n → ∀ W1, J pre W1 → YieldAt Fence.wide 0 Try.prog l #[eN k] W1 fun e W' => ∃ u, e = .returned u ∧ YR J Jx (Kp O w0.heap.size) (pre ++ [k]) W1 u W') (hJ : J [] W) :
    CW Try.prog 54 #[(Value.func (.yield l) #[] #[]), (ptr xb 0), (ptr yb 0)] W (Rt (fun _ W' => J (goodL bad d n) W' ∨ ∃ pre, pre <+: goodL bad d n ∧ Jx pre W')) := by
 refine enter (al := [(Value.func (.yield l) #[] #[]), (ptr xb 0), (ptr yb 0)]) (k := 17) (l := ([(Value.func (.yield l) #[] #[]), (ptr xb 0), (ptr yb 0)] ++ (us 17))) Try.func54 rfl Try.ntmps54 rfl rfl ?_
 refine wpIn_seq ?_
 refine plain ?_
 refine wI (d_load (v := (eN n)) ⟨_, Try.underlying3, rfl⟩ rfl hxb rfl) ?_
 refine wI (d_move rfl) ?_
 refine wF ([(Value.func (.yield l) #[] #[]), (ptr xb 0), (ptr yb 0), undef, undef, (eN n), (eN 0)] ++ (us 13)) ?_
 refine wpL.done ?_
 refine then_n ?_
 refine wpIn_block ?_
 refine loop2 (fun (i : (Nat)) => fun (z : Nat → Value) => (([(Value.func (.yield l) #[] #[]), (ptr xb 0), (ptr yb 0), undef, (z 4), (eN n), (eN i)] ++ (zs z 7 13)) : List Value)) (fun (i : (Nat)) => fun (w_ : World) => (i ≤ n) ∧ (J (goodL bad d i) w_) ∧ Arr 3 xb [(eN n)] w_ ∧ Arr 69 yb [(Value.func (.func 48) #[] #[(ptr cb 0), (ptr cd 0)])] w_ ∧ Arr 42 cb [ub] w_ ∧ Arr 3 cd [(eN d)] w_ ∧ Ps (OrN X w0.heap.size) (Seq (kA 2 eQ) bad ub) w_) (fun (i : (Nat)) => n - i) 0 rfl ?_ ?_
 ·
  refine ⟨?_, ?_, ?_, ?_, ?_, ?_, ?_⟩
  ·
   exact Nat.zero_le _
  ·
   exact hJ
  ·
   exact hxb
  ·
   exact hyb
  ·
   exact hcb
  ·
   exact hcd
  ·
   exact hbad
 rintro i z w12 ⟨hi, hJ, hxb, hyb, hcb, hcd, hbad⟩
 (try dsimp only)
 refine wpIn_seq ?_
 refine plain ?_
 refine wI (n_lss (a := i) (b := n) rfl rfl rfl) ?_
 refine wF ([(Value.func (.yield l) #[] #[]), (ptr xb 0), (ptr yb 0), undef, (z 4), (eN n), (eN i), (Value.bool (decide (i < n)))] ++ (zs z 8 12)) ?_
 refine wpL.done ?_
 refine then_n ?_
 refine wpIn_seq ?_
 refine cond_if rfl (fun c1_ => ?_) (fun c1_ => ?_)
 ·
  refine wpIn_skip ?_
  refine then_n ?_
  refine wpIn_seq ?_
  refine wpIn_block ?_
  refine wpIn_seq ?_
  refine plain ?_
  refine wI (d_move rfl) ?_
  refine wI (d_assign rfl) ?_
  refine wF ([(Value.func (.yield l) #[] #[]), (ptr xb 0), (ptr yb 0), undef, (eN i), (eN n), (eN i), (Value.bool (decide (i < n))), (eN i)] ++ (zs z 9 11)) ?_
  refine wpL.done ?_
  refine then_n ?_
  refine wpIn_seq ?_
  by_cases kb_ : (isBadL bad d i) = true
  ·
   refine plain ?_
   refine wI (d_load (v := (Value.func (.func 48) #[] #[(ptr cb 0), (ptr cd 0)])) ⟨_, Try.underlying69, rfl⟩ rfl hyb rfl) ?_
   refine wI (d_move rfl) ?_
   refine wO (d_callv (xl := [.tmp 10]) (al := [(eN i)]) rfl Try.func48 (by kernel_rfl) rfl rfl rfl (isBad_to (isBad_ok bad ub _ (Ps.no hbad) (by first | omega | (simp; done) | (simp; omega)) d i cb cd n_cb_cd hcb hcd) kb_)) ?_
   rintro _ w13 ⟨rfl, o14⟩
   replace hbad := hbad.step0 o14
   replace hxb := hxb.step0 o14
   replace hyb := hyb.step0 o14
   replace hcb := hcb.step0 o14
   replace hcd := hcd.step0 o14
   replace hJ := SJ _ _ _ hJ o14
   refine wF ([(Value.func (.yield l) #[] #[]), (ptr xb 0), (ptr yb 0), undef, (eN i), (eN n), (eN i), (Value.bool (decide (i < n))), (eN i), (Value.func (.func 48) #[] #[(ptr cb 0), (ptr cd 0)]), (eN i), (Value.bool true)] ++ (zs z 12 8)) ?_
   refine wI (d_not rfl rfl) ?_
   refine wI (d_move rfl) ?_
   refine wF ([(Value.func (.yield l) #[] #[]), (ptr xb 0), (ptr yb 0), undef, (eN i), (eN n), (eN i), (Value.bool (decide (i < n))), (eN i), (Value.func (.func 48) #[] #[(ptr cb 0), (ptr cd 0)]), (eN i), (Value.bool true), (Value.bool false), (Value.bool false)] ++ (zs z 14 6)) ?_
   refine wpL.off rfl rfl rfl (nb rfl) rfl ?_
   refine wpL.off rfl rfl rfl (nb rfl) rfl ?_
   refine wpL.off rfl rfl rfl (nb rfl) rfl ?_
   refine wF [(Value.func (.yield l) #[] #[]), (ptr xb 0), (ptr yb 0), undef, (eN i), (eN n), (eN i), (Value.bool (decide (i < n))), (eN i), (Value.func (.func 48) #[] #[(ptr cb 0), (ptr cd 0)]), (eN i), (Value.bool true), (Value.bool false), (Value.bool false), undef, undef, undef, (z 17), (z 18), (z 19)] ?_
   refine wpL.off rfl rfl rfl (nb rfl) rfl ?_
   refine wI (d_pick (b := false) (v := (Value.bool false)) rfl rfl) ?_
   refine wF [(Value.func (.yield l) #[] #[]), (ptr xb 0), (ptr yb 0), undef, (eN i), (eN n), (eN i), (Value.bool (decide (i < n))), (eN i), (Value.func (.func 48) #[] #[(ptr cb 0), (ptr cd 0)]), (eN i), (Value.bool true), (Value.bool false), (Value.bool false), undef, undef, undef, undef, (Value.bool false), (z 19)] ?_
   refine wpL.done ?_
   refine then_n ?_
   refine forget (fun zf15 => ([(Value.func (.yield l) #[] #[]), (ptr xb 0), (ptr yb 0), undef, (zf15 4), (eN n), (eN i)] ++ (zs zf15 7 11 ++ [(Value.bool false), (zf15 19)]))) (by kernel_rfl) (fun zf15 => ?_)
   refine cond_f rfl ?_
   refine wpIn_skip ?_
   refine inb_n (then_n ?_)
   refine plain ?_
   refine wI (n_add (a := i) (b := 1) rfl rfl (by omega)) ?_
   refine wI (d_move rfl) ?_
   refine wF ([(Value.func (.yield l) #[] #[]), (ptr xb 0), (ptr yb 0), undef, (zf15 4), (eN n), (eN (i + 1))] ++ (zs zf15 7 11 ++ [(Value.bool false), (eN (i + 1))])) ?_
   refine wpL.done ?_
   refine then_n ?_
   refine ⟨_, (i + 1), rfl, rfl, ⟨?_, ?_, ?_, ?_, ?_, ?_, ?_⟩, ?_⟩
   ·
    (try dsimp only)
    all_goals (omega)
   ·
    (try dsimp only)
    all_goals (rw [good_yes kb_]; exact hJ)
   ·
    exact hxb
   ·
    exact hyb
   ·
    exact hcb
   ·
    exact hcd
   ·
    exact hbad
   ·
    (try dsimp only)
    all_goals (omega)
  refine plain ?_
  refine wI (d_load (v := (Value.func (.func 48) #[] #[(ptr cb 0), (ptr cd 0)])) ⟨_, Try.underlying69, rfl⟩ rfl hyb rfl) ?_
  refine wI (d_move rfl) ?_
  refine wO (d_callv (xl := [.tmp 10]) (al := [(eN i)]) rfl Try.func48 (by kernel_rfl) rfl rfl rfl (isBad_to (isBad_ok bad ub _ (Ps.no hbad) (by first | omega | (simp; done) | (simp; omega)) d i cb cd n_cb_cd hcb hcd) (Bool.eq_false_iff.2 kb_))) ?_
  rintro _ w16 ⟨rfl, o17⟩
  replace hbad := hbad.step0 o17
  replace hxb := hxb.step0 o17
  replace hyb := hyb.step0 o17
  replace hcb := hcb.step0 o17
  replace hcd := hcd.step0 o17
  replace hJ := SJ _ _ _ hJ o17
  refine wF ([(Value.func (.yield l) #[] #[]), (ptr xb 0), (ptr yb 0), undef, (eN i), (eN n), (eN i), (Value.bool (decide (i < n))), (eN i), (Value.func (.func 48) #[] #[(ptr cb 0), (ptr cd 0)]), (eN i), (Value.bool false)] ++ (zs z 12 8)) ?_
  refine wI (d_not rfl rfl) ?_
  refine wI (d_move rfl) ?_
  refine wpL.onis rfl rfl rfl (nb rfl) rfl (d_move rfl) ?_
  refine wF ([(Value.func (.yield l) #[] #[]), (ptr xb 0), (ptr yb 0), undef, (eN i), (eN n), (eN i), (Value.bool (decide (i < n))), (eN i), (Value.func (.func 48) #[] #[(ptr cb 0), (ptr cd 0)]), (eN i), (Value.bool false), (Value.bool true), (Value.bool true), (Value.func (.yield l) #[] #[])] ++ (zs z 15 5)) ?_
  refine wpL.onis rfl rfl rfl (nb rfl) rfl (d_move rfl) ?_
  refine wpL.on rfl rfl rfl (nb rfl) rfl (d_yield (xl := [.tmp 15]) (al := [(eN i)]) rfl rfl (hyy _ _ (good_pre c1_ kb_) _ hJ)) ?_
  rintro _ w18 ⟨t, rfl, hT, hF⟩
  refine wpL.onis rfl rfl rfl (nb rfl) rfl (d_not rfl rfl) ?_
  refine wF [(Value.func (.yield l) #[] #[]), (ptr xb 0), (ptr yb 0), undef, (eN i), (eN n), (eN i), (Value.bool (decide (i < n))), (eN i), (Value.func (.func 48) #[] #[(ptr cb 0), (ptr cd 0)]), (eN i), (Value.bool false), (Value.bool true), (Value.bool true), (Value.func (.yield l) #[] #[]), (eN i), (Value.bool t), (Value.bool (!t)), (z 18), (z 19)] ?_
  refine wI (d_pick (b := true) (v := (Value.bool (!t))) rfl rfl) ?_
  refine wF [(Value.func (.yield l) #[] #[]), (ptr xb 0), (ptr yb 0), undef, (eN i), (eN n), (eN i), (Value.bool (decide (i < n))), (eN i), (Value.func (.func 48) #[] #[(ptr cb 0), (ptr cd 0)]), (eN i), (Value.bool false), (Value.bool true), (Value.bool true), (Value.func (.yield l) #[] #[]), (eN i), (Value.bool t), (Value.bool (!t)), (Value.bool (!t)), (z 19)] ?_
  refine wpL.done ?_
  refine then_n ?_
  refine forget (fun zf19 => ([(Value.func (.yield l) #[] #[]), (ptr xb 0), (ptr yb 0), undef, (zf19 4), (eN n), (eN i)] ++ (zs zf19 7 11 ++ [(Value.bool (!t)), (zf19 19)]))) (by kernel_rfl) (fun zf19 => ?_)
  refine cond_b rfl (fun c0_ => ?_) (fun c0_ => ?_)
  ·
   refine wpIn_ret ?_
   refine inb_r (then_r (then_r (inb_r ?_)))
   refine leave0 (v := (Value.tuple #[])) (res0 Try.results54) ?_
   exact .inr ⟨_, good_pre c1_ kb_, hF (by simpa using c0_)⟩
  obtain ⟨hJ3, oY⟩ := hT (by simpa using c0_)
  rw [← good_no (Bool.eq_false_iff.2 kb_)] at hJ3
  replace hxb := hxb.step oY (fun h => h kxb)
  replace hyb := hyb.step oY (fun h => h kyb)
  replace hcb := hcb.step oY (fun h => h kcb)
  replace hcd := hcd.step oY (fun h => h kcd)
  replace hbad := hbad.yield hX oY
  refine wpIn_skip ?_
  refine inb_n (then_n ?_)
  refine plain ?_
  refine wI (n_add (a := i) (b := 1) rfl rfl (by omega)) ?_
  refine wI (d_move rfl) ?_
  refine wF ([(Value.func (.yield l) #[] #[]), (ptr xb 0), (ptr yb 0), undef, (zf19 4), (eN n), (eN (i + 1))] ++ (zs zf19 7 11 ++ [(Value.bool (!t)), (eN (i + 1))])) ?_
  refine wpL.done ?_
  refine then_n ?_
  refine ⟨_, (i + 1), rfl, rfl, ⟨?_, ?_, ?_, ?_, ?_, ?_, ?_⟩, ?_⟩
  ·
   (try dsimp only)
   all_goals (omega)
  ·
   exact hJ3
  ·
   exact hxb
  ·
   exact hyb
  ·
   exact hcb
  ·
   exact hcd
  ·
   exact hbad
  ·
   (try dsimp only)
   all_goals (omega)
 refine wpIn_exit ?_
 refine then_x (then_x (inb_e ?_))
 refine to_ret ?_
 refine leave0 (v := (Value.tuple #[])) (res0 Try.results54) ?_
 exact .inl (by rw [show i = n by omega] at hJ; exact hJ)


theorem iter_but {O X : Nat → Prop} {w0 : World} (bad : List (Int × Int)) (ub : Value) (n d xb yb cb cd : Nat) (hxb : Arr 3 xb [eN n] w0) (hyb : Arr 69 yb [(.func (.func 48) #[] #[ptr cb 0, ptr cd 0])] w0) (hcb : Arr 42 cb [ub] w0) (hcd : Arr 3 cd [eN d] w0) (n_xb_yb : xb ≠ yb) (n_xb_cb : xb ≠ cb) (n_xb_cd : xb ≠ cd) (n_yb_cb : yb ≠ cb) (n_yb_cd : yb ≠ cd) (n_cb_cd : cb ≠ cd) (oxb : ¬ O xb) (oyb : ¬ O yb) (ocb : ¬ O cb) (ocd : ¬ O cd) (hbad : Ps X (Seq (kA 2 eQ) bad ub) w0) (hX : ∀ k, O k → X k) (gb : bad.length ≤ 1000000000) (gn : n ≤ 1000) : Iter Try.prog 54 [ptr xb 0, ptr yb 0].toArray (fun k => [eN k].toArray) No (Kp O w0.heap.size) (goodL bad d n) w0 :=
  iter_of (encs := fun k => [eN k]) fun l J Jx W hO SJ SJx hyy hJ => but1_ok bad ub n d xb yb cb cd l J Jx W (hxb.step hO (fun h => h ⟨hxb.lt, oxb⟩)) (hyb.step hO (fun h => h ⟨hyb.lt, oyb⟩)) (hcb.step hO (fun h => h ⟨hcb.lt, ocb⟩)) (hcd.step hO (fun h => h ⟨hcd.lt, ocd⟩)) n_xb_yb n_xb_cb n_xb_cd n_yb_cb n_yb_cd n_cb_cd ⟨hxb.lt, oxb⟩ ⟨hyb.lt, oyb⟩ ⟨hcb.lt, ocb⟩ ⟨hcd.lt, ocd⟩ (hbad.kp hX hO) hX gb gn SJ hyy hJ
set_option maxRecDepth 20000 in
set_option maxHeartbeats 1000000 in
theorem cloneN_ok (la : List Nat) (u1 : Value) (W : World) (h1 : Ps No (Seq kN la u1) W) (g1 : la.length ≤ 1048576) :
    CW Try.prog 50 #[u1] W (Rt (ROw 3 eN la W)) := by
 have oW : Only No W W := Only.refl _ _
 refine enter (al := [u1]) (k := 7) (l := ([u1] ++ (us 7))) Try.func50 rfl Try.ntmps50 rfl rfl ?_
 refine wpIn_seq ?_
 refine plain ?_
 refine wI (d_assign rfl) ?_
 refine wF ([u1, undef, (Value.slice none 0 0)] ++ (us 5)) ?_
 refine wpL.done ?_
 refine then_n ?_
 refine wpIn_seq ?_
 refine wpIn_seq ?_
 refine plain ?_
 refine wI (d_move rfl) ?_
 refine wO (d_eqnil Try.underlying29 rfl h1 rfl) ?_
 rintro _ _ ⟨t, rfl, ht, rfl⟩
 refine wF [u1, undef, (Value.slice none 0 0), u1, (Value.bool t), undef, undef, undef] ?_
 refine wpL.done ?_
 refine then_n ?_
 refine cond_b rfl (fun c0 => ?_) (fun c0 => ?_)
 ·
  refine wpIn_seq ?_
  refine plain ?_
  refine wI (d_assign rfl) ?_
  refine wF [u1, undef, (Value.slice none 0 0), u1, (Value.bool t), undef, undef, undef] ?_
  refine wpL.done ?_
  refine then_n ?_
  refine wpIn_ret ?_
  refine then_r ?_
  refine leave0 (v := (Value.slice none 0 0)) (res1 Try.results50 rfl) ?_
  exact ROw.nil ((ht c0).symm) oW
 refine wpIn_skip ?_
 refine then_n ?_
 refine wpIn_seq ?_
 refine plain ?_
 refine wO (d_buildL (cs := []) Try.underlying29 s_ti3 rfl (nb rfl) parts_nil rfl) ?_
 rintro _ w12 ⟨b11, rfl, g13, a14, o15⟩
 replace a14 : Arr 3 b11 (([] : List Nat).map eN) w12 := a14
 have l_b11 : ([] : List Nat).length = 0 := rfl
 have g_oW_b11 : W.heap.size ≤ b11 := Nat.le_trans oW.size g13
 replace h1 := h1.new o15 g13
 replace oW := oW.tail0 o15
 refine wI (d_move rfl) ?_
 have a16 := Ow.of_map2 a14 l_b11
 have q_oW_o : Fr (some b11) none W.heap.size := Fr.new g_oW_b11
 replace h1 := h1.less (Y := (Orq (some b11) No)) (xx_br xx_id)
 refine wO (d_append Try.underlying29 Try.underlying29 s_ti3 rfl rfl rfl a16 (SrcV.of_seq h1 (fun _ => rfl)) (by simp; omega) (by simp; omega) rfl) ?_
 rintro u17 w18 ⟨bo19, a20, o21, q22⟩
 replace a20 : Ow 3 1 bo19 u17 (la).length ((la).map eN) w18 := by simpa using a20
 replace h1 := h1.gr o21 (fun k e => (.inl e)) (xx_re (Fr.of_or q22) xx_id)
 have tq := oW.size
 replace oW := oW.tailr o21 q_oW_o (fun _ e => by cases e)
 replace q_oW_o := qtr (Fr.of_or q22) q_oW_o tq
 clear tq
 refine wF [u1, undef, (Value.slice none 0 0), u1, (Value.bool t), (sli b11 0 0 0), u1, u17] ?_
 refine wI (d_assign rfl) ?_
 refine wF [u1, undef, u17, u1, (Value.bool t), (sli b11 0 0 0), u1, u17] ?_
 refine wpL.done ?_
 refine then_n ?_
 refine wpIn_ret ?_
 refine leave0 (v := u17) (res1 Try.results50 rfl) ?_
 exact ROw.mk_ a20 rfl q_oW_o oW

set_option maxRecDepth 20000 in
set_option maxHeartbeats 1000000 in
theorem gwithin_ok (n a b : Int) (W : World) :
    CW Try.prog 39 #[(eI n), (eI a), (eI b)] W (Rt (RIs (.bool (decide (a ≤ n ∧ n ≤ b))) W)) := by
 have oW : Only No W W := Only.refl _ _
 refine enter (al := [(eI n), (eI a), (eI b)]) (k := 12) (l := ([(eI n), (eI a), (eI b)] ++ (us 12))) Try.func39 rfl Try.ntmps39 rfl rfl ?_
 refine wpIn_seq ?_
 refine plain ?_
 refine wI (d_assign rfl) ?_
 refine wF ([(eI n), (eI a), (eI b), undef, undef, undef, (Value.bool false)] ++ (us 8)) ?_
 refine wpL.done ?_
 refine then_n ?_
 refine wpIn_seq ?_
 by_cases k0 : a ≤ n
 ·
  by_cases k1 : n ≤ b
  ·
   refine plain ?_
   refine wI (d_move rfl) ?_
   refine wI (d_move rfl) ?_
   refine wI (d_geq (k := .i64) (m := n) (n := a) rfl rfl (decide_eq_true k0)) ?_
   refine wF ([(eI n), (eI a), (eI b), undef, undef, undef, (Value.bool false), (eI n), (eI a), (Value.bool true)] ++ (us 5)) ?_
   refine wI (d_move rfl) ?_
   refine wpL.onis rfl rfl rfl (nb rfl) rfl (d_move rfl) ?_
   refine wpL.onis rfl rfl rfl (nb rfl) rfl (d_move rfl) ?_
   refine wF [(eI n), (eI a), (eI b), undef, undef, undef, (Value.bool false), (eI n), (eI a), (Value.bool true), (Value.bool true), (eI n), (eI b), undef, undef] ?_
   refine wpL.onis rfl rfl rfl (nb rfl) rfl (d_leq (k := .i64) (m := n) (n := b) rfl rfl (decide_eq_true k1)) ?_
   refine wI (d_pick (b := true) (v := (Value.bool true)) rfl rfl) ?_
   refine wI (d_assign rfl) ?_
   refine wF [(eI n), (eI a), (eI b), undef, undef, undef, (Value.bool true), (eI n), (eI a), (Value.bool true), (Value.bool true), (eI n), (eI b), (Value.bool true), (Value.bool true)] ?_
   refine wpL.done ?_
   refine then_n ?_
   refine wpIn_ret ?_
   refine leave0 (v := (Value.bool true)) (res1 Try.results39 rfl) ?_
   exact ⟨congrArg Value.bool ((decide_eq_true ⟨k0, k1⟩).symm), oW⟩
  refine plain ?_
  refine wI (d_move rfl) ?_
  refine wI (d_move rfl) ?_
  refine wI (d_geq (k := .i64) (m := n) (n := a) rfl rfl (decide_eq_true k0)) ?_
  refine wF ([(eI n), (eI a), (eI b), undef, undef, undef, (Value.bool false), (eI n), (eI a), (Value.bool true)] ++ (us 5)) ?_
  refine wI (d_move rfl) ?_
  refine wpL.onis rfl rfl rfl (nb rfl) rfl (d_move rfl) ?_
  refine wpL.onis rfl rfl rfl (nb rfl) rfl (d_move rfl) ?_
  refine wF [(eI n), (eI a), (eI b), undef, undef, undef, (Value.bool false), (eI n), (eI a), (Value.bool true), (Value.bool true), (eI n), (eI b), undef, undef] ?_
  refine wpL.onis rfl rfl rfl (nb rfl) rfl (d_leq (k := .i64) (m := n) (n := b) rfl rfl (decide_eq_false k1)) ?_
  refine wI (d_pick (b := true) (v := (Value.bool false)) rfl rfl) ?_
  refine wI (d_assign rfl) ?_
  refine wF [(eI n), (eI a), (eI b), undef, undef, undef, (Value.bool false), (eI n), (eI a), (Value.bool true), (Value.bool true), (eI n), (eI b), (Value.bool false), (Value.bool false)] ?_
  refine wpL.done ?_
  refine then_n ?_
  refine wpIn_ret ?_
  refine leave0 (v := (Value.bool false)) (res1 Try.results39 rfl) ?_
  exact ⟨congrArg Value.bool ((decide_eq_false (by omega)).symm), oW⟩
 refine plain ?_
 refine wI (d_move rfl) ?_
 refine wI (d_move rfl) ?_
 refine wI (d_geq (k := .i64) (m := n) (n := a) rfl rfl (decide_eq_false k0)) ?_
 refine wF ([(eI n), (eI a), (eI b), undef, undef, undef, (Value.bool false), (eI n), (eI a), (Value.bool false)] ++ (us 5)) ?_
 refine wI (d_move rfl) ?_
 refine wpL.off rfl rfl rfl (nb rfl) rfl ?_
 refine wF [(eI n), (eI a), (eI b), undef, undef, undef, (Value.bool false), (eI n), (eI a), (Value.bool false), (Value.bool false), undef, undef, undef, undef] ?_
 refine wpL.off rfl rfl rfl (nb rfl) rfl ?_
 refine wpL.off rfl rfl rfl (nb rfl) rfl ?_
 refine wI (d_pick (b := false) (v := (Value.bool false)) rfl rfl) ?_
 refine wI (d_assign rfl) ?_
 refine wF [(eI n), (eI a), (eI b), undef, undef, undef, (Value.bool false), (eI n), (eI a), (Value.bool false), (Value.bool false), undef, undef, undef, (Value.bool false)] ?_
 refine wpL.done ?_
 refine then_n ?_
 refine wpIn_ret ?_
 refine leave0 (v := (Value.bool false)) (res1 Try.results39 rfl) ?_
 exact ⟨congrArg Value.bool ((decide_eq_false (by omega)).symm), oW⟩

set_option maxRecDepth 20000 in
set_option maxHeartbeats 1000000 in
theorem gfitsI_ok (x y z : Int) (W : World) :
    CW Try.prog 38 #[(Value.agg #[(eI x), (eI y), (eI z)])] W (Rt (RIs (.bool (fitsI x y z)) W)) := by
 have oW : Only No W W := Only.refl _ _
 refine enter (al := [(Value.agg #[(eI x), (eI y), (eI z)])]) (k := 15) (l := ([(Value.agg #[(eI x), (eI y), (eI z)])] ++ (us 15))) Try.func38 rfl Try.ntmps38 rfl rfl ?_
 refine wpIn_seq ?_
 refine plain ?_
 refine wO (d_box rfl rfl) ?_
 rintro _ w12 ⟨b11, rfl, g13, a14, o15⟩
 have g_oW_b11 : W.heap.size ≤ b11 := Nat.le_trans oW.size g13
 replace oW := oW.tail0 o15
 refine wI (d_assign rfl) ?_
 refine wF ([(Value.agg #[(eI x), (eI y), (eI z)]), (ptr b11 0), (Value.bool false)] ++ (us 13)) ?_
 refine wpL.done ?_
 refine then_n ?_
 refine wpIn_seq ?_
 by_cases k0 : 6 ≤ x ∧ x ≤ 8
 ·
  by_cases k1 : 8 ≤ y ∧ y ≤ 12
  ·
   by_cases k2 : 4 ≤ z ∧ z ≤ 8
   ·
    refine plain ?_
    refine wI (d_fieldAddr (j := 0) Try.underlying25 rfl s_ti3 (by decide) rfl rfl) ?_
    refine wI (d_load (v := (eI x)) ⟨_, Try.underlying3, rfl⟩ rfl a14 rfl) ?_
    refine wO (d_call (xl := [.tmp 4, .const (.int .i64 6), .const (.int .i64 8)]) (al := [(eI x), (eN 6), (eN 8)]) Try.func39 (by kernel_rfl) rfl rfl rfl (cw_is (gwithin_ok x 6 8 _) (congrArg Value.bool (decide_eq_true k0)))) ?_
    rintro _ w16 ⟨rfl, o17⟩
    replace a14 := a14.step0 o17
    replace oW := oW.tail0 o17
    refine wF ([(Value.agg #[(eI x), (eI y), (eI z)]), (ptr b11 0), (Value.bool false), (ptr b11 0), (eI x), (Value.bool true)] ++ (us 10)) ?_
    refine wI (d_move rfl) ?_
    refine wpL.onis rfl rfl rfl (nb rfl) rfl (d_fieldAddr (j := 1) Try.underlying25 rfl s_ti3 (by decide) rfl rfl) ?_
    refine wpL.onis rfl rfl rfl (nb rfl) rfl (d_load (v := (eI y)) ⟨_, Try.underlying3, rfl⟩ rfl a14 rfl) ?_
    refine wF ([(Value.agg #[(eI x), (eI y), (eI z)]), (ptr b11 0), (Value.bool false), (ptr b11 0), (eI x), (Value.bool true), (Value.bool true), (ptr b11 1), (eI y)] ++ (us 7)) ?_
    refine wpL.on rfl rfl rfl (nb rfl) rfl (d_call (xl := [.tmp 8, .const (.int .i64 8), .const (.int .i64 12)]) (al := [(eI y), (eN 8), (eN 12)]) Try.func39 (by kernel_rfl) rfl rfl rfl (cw_is (gwithin_ok y 8 12 _) (congrArg Value.bool (decide_eq_true k1)))) ?_
    rintro _ w18 ⟨rfl, o19⟩
    replace a14 := a14.step0 o19
    replace oW := oW.tail0 o19
    refine wI (d_pick (b := true) (v := (Value.bool true)) rfl rfl) ?_
    refine wI (d_move rfl) ?_
    refine wF [(Value.agg #[(eI x), (eI y), (eI z)]), (ptr b11 0), (Value.bool false), (ptr b11 0), (eI x), (Value.bool true), (Value.bool true), (ptr b11 1), (eI y), (Value.bool true), (Value.bool true), (Value.bool true), undef, undef, undef, undef] ?_
    refine wpL.onis rfl rfl rfl (nb rfl) rfl (d_fieldAddr (j := 2) Try.underlying25 rfl s_ti3 (by decide) rfl rfl) ?_
    refine wpL.onis rfl rfl rfl (nb rfl) rfl (d_load (v := (eI z)) ⟨_, Try.underlying3, rfl⟩ rfl a14 rfl) ?_
    refine wpL.on rfl rfl rfl (nb rfl) rfl (d_call (xl := [.tmp 13, .const (.int .i64 4), .const (.int .i64 8)]) (al := [(eI z), (eN 4), (eN 8)]) Try.func39 (by kernel_rfl) rfl rfl rfl (cw_is (gwithin_ok z 4 8 _) (congrArg Value.bool (decide_eq_true k2)))) ?_
    rintro _ w20 ⟨rfl, o21⟩
    replace a14 := a14.step0 o21
    replace oW := oW.tail0 o21
    refine wF [(Value.agg #[(eI x), (eI y), (eI z)]), (ptr b11 0), (Value.bool false), (ptr b11 0), (eI x), (Value.bool true), (Value.bool true), (ptr b11 1), (eI y), (Value.bool true), (Value.bool true), (Value.bool true), (ptr b11 2), (eI z), (Value.bool true), undef] ?_
    refine wI (d_pick (b := true) (v := (Value.bool true)) rfl rfl) ?_
    refine wI (d_assign rfl) ?_
    refine wF [(Value.agg #[(eI x), (eI y), (eI z)]), (ptr b11 0), (Value.bool true), (ptr b11 0), (eI x), (Value.bool true), (Value.bool true), (ptr b11 1), (eI y), (Value.bool true), (Value.bool true), (Value.bool true), (ptr b11 2), (eI z), (Value.bool true), (Value.bool true)] ?_
    refine wpL.done ?_
    refine then_n ?_
    refine wpIn_ret ?_
    refine leave0 (v := (Value.bool true)) (res1 Try.results38 rfl) ?_
    exact ⟨congrArg Value.bool (fits_is (by omega)), oW⟩
   refine plain ?_
   refine wI (d_fieldAddr (j := 0) Try.underlying25 rfl s_ti3 (by decide) rfl rfl) ?_
   refine wI (d_load (v := (eI x)) ⟨_, Try.underlying3, rfl⟩ rfl a14 rfl) ?_
   refine wO (d_call (xl := [.tmp 4, .const (.int .i64 6), .const (.int .i64 8)]) (al := [(eI x), (eN 6), (eN 8)]) Try.func39 (by kernel_rfl) rfl rfl rfl (cw_is (gwithin_ok x 6 8 _) (congrArg Value.bool (decide_eq_true k0)))) ?_
   rintro _ w22 ⟨rfl, o23⟩
   replace a14 := a14.step0 o23
   replace oW := oW.tail0 o23
   refine wF ([(Value.agg #[(eI x), (eI y), (eI z)]), (ptr b11 0), (Value.bool false), (ptr b11 0), (eI x), (Value.bool true)] ++ (us 10)) ?_
   refine wI (d_move rfl) ?_
   refine wpL.onis rfl rfl rfl (nb rfl) rfl (d_fieldAddr (j := 1) Try.underlying25 rfl s_ti3 (by decide) rfl rfl) ?_
   refine wpL.onis rfl rfl rfl (nb rfl) rfl (d_load (v := (eI y)) ⟨_, Try.underlying3, rfl⟩ rfl a14 rfl) ?_
   refine wF ([(Value.agg #[(eI x), (eI y), (eI z)]), (ptr b11 0), (Value.bool false), (ptr b11 0), (eI x), (Value.bool true), (Value.bool true), (ptr b11 1), (eI y)] ++ (us 7)) ?_
   refine wpL.on rfl rfl rfl (nb rfl) rfl (d_call (xl := [.tmp 8, .const (.int .i64 8), .const (.int .i64 12)]) (al := [(eI y), (eN 8), (eN 12)]) Try.func39 (by kernel_rfl) rfl rfl rfl (cw_is (gwithin_ok y 8 12 _) (congrArg Value.bool (decide_eq_true k1)))) ?_
   rintro _ w24 ⟨rfl, o25⟩
   replace a14 := a14.step0 o25
   replace oW := oW.tail0 o25
   refine wI (d_pick (b := true) (v := (Value.bool true)) rfl rfl) ?_
   refine wI (d_move rfl) ?_
   refine wF [(Value.agg #[(eI x), (eI y), (eI z)]), (ptr b11 0), (Value.bool false), (ptr b11 0), (eI x), (Value.bool true), (Value.bool true), (ptr b11 1), (eI y), (Value.bool true), (Value.bool true), (Value.bool true), undef, undef, undef, undef] ?_
   refine wpL.onis rfl rfl rfl (nb rfl) rfl (d_fieldAddr (j := 2) Try.underlying25 rfl s_ti3 (by decide) rfl rfl) ?_
   refine wpL.onis rfl rfl rfl (nb rfl) rfl (d_load (v := (eI z)) ⟨_, Try.underlying3, rfl⟩ rfl a14 rfl) ?_
   refine wpL.on rfl rfl rfl (nb rfl) rfl (d_call (xl := [.tmp 13, .const (.int .i64 4), .const (.int .i64 8)]) (al := [(eI z), (eN 4), (eN 8)]) Try.func39 (by kernel_rfl) rfl rfl rfl (cw_is (gwithin_ok z 4 8 _) (congrArg Value.bool (decide_eq_false k2)))) ?_
   rintro _ w26 ⟨rfl, o27⟩
   replace a14 := a14.step0 o27
   replace oW := oW.tail0 o27
   refine wF [(Value.agg #[(eI x), (eI y), (eI z)]), (ptr b11 0), (Value.bool false), (ptr b11 0), (eI x), (Value.bool true), (Value.bool true), (ptr b11 1), (eI y), (Value.bool true), (Value.bool true), (Value.bool true), (ptr b11 2), (eI z), (Value.bool false), undef] ?_
   refine wI (d_pick (b := true) (v := (Value.bool false)) rfl rfl) ?_
   refine wI (d_assign rfl) ?_
   refine wF [(Value.agg #[(eI x), (eI y), (eI z)]), (ptr b11 0), (Value.bool false), (ptr b11 0), (eI x), (Value.bool true), (Value.bool true), (ptr b11 1), (eI y), (Value.bool true), (Value.bool true), (Value.bool true), (ptr b11 2), (eI z), (Value.bool false), (Value.bool false)] ?_
   refine wpL.done ?_
   refine then_n ?_
   refine wpIn_ret ?_
   refine leave0 (v := (Value.bool false)) (res1 Try.results38 rfl) ?_
   exact ⟨congrArg Value.bool (fits_no (by omega)), oW⟩
  refine plain ?_
  refine wI (d_fieldAddr (j := 0) Try.underlying25 rfl s_ti3 (by decide) rfl rfl) ?_
  refine wI (d_load (v := (eI x)) ⟨_, Try.underlying3, rfl⟩ rfl a14 rfl) ?_
  refine wO (d_call (xl := [.tmp 4, .const (.int .i64 6), .const (.int .i64 8)]) (al := [(eI x), (eN 6), (eN 8)]) Try.func39 (by kernel_rfl) rfl rfl rfl (cw_is (gwithin_ok x 6 8 _) (congrArg Value.bool (decide_eq_true k0)))) ?_
  rintro _ w28 ⟨rfl, o29⟩
  replace a14 := a14.step0 o29
  replace oW := oW.tail0 o29
  refine wF ([(Value.agg #[(eI x), (eI y), (eI z)]), (ptr b11 0), (Value.bool false), (ptr b11 0), (eI x), (Value.bool true)] ++ (us 10)) ?_
  refine wI (d_move rfl) ?_
  refine wpL.onis rfl rfl rfl (nb rfl) rfl (d_fieldAddr (j := 1) Try.underlying25 rfl s_ti3 (by decide) rfl rfl) ?_
  refine wpL.onis rfl rfl rfl (nb rfl) rfl (d_load (v := (eI y)) ⟨_, Try.underlying3, rfl⟩ rfl a14 rfl) ?_
  refine wF ([(Value.agg #[(eI x), (eI y), (eI z)]), (ptr b11 0), (Value.bool false), (ptr b11 0), (eI x), (Value.bool true), (Value.bool true), (ptr b11 1), (eI y)] ++ (us 7)) ?_
  refine wpL.on rfl rfl rfl (nb rfl) rfl (d_call (xl := [.tmp 8, .const (.int .i64 8), .const (.int .i64 12)]) (al := [(eI y), (eN 8), (eN 12)]) Try.func39 (by kernel_rfl) rfl rfl rfl (cw_is (gwithin_ok y 8 12 _) (congrArg Value.bool (decide_eq_false k1)))) ?_
  rintro _ w30 ⟨rfl, o31⟩
  replace a14 := a14.step0 o31
  replace oW := oW.tail0 o31
  refine wI (d_pick (b := true) (v := (Value.bool false)) rfl rfl) ?_
  refine wI (d_move rfl) ?_
  refine wF [(Value.agg #[(eI x), (eI y), (eI z)]), (ptr b11 0), (Value.bool false), (ptr b11 0), (eI x), (Value.bool true), (Value.bool true), (ptr b11 1), (eI y), (Value.bool false), (Value.bool false), (Value.bool false), undef, undef, undef, undef] ?_
  refine wpL.off rfl rfl rfl (nb rfl) rfl ?_
  refine wpL.off rfl rfl rfl (nb rfl) rfl ?_
  refine wF [(Value.agg #[(eI x), (eI y), (eI z)]), (ptr b11 0), (Value.bool false), (ptr b11 0), (eI x), (Value.bool true), (Value.bool true), (ptr b11 1), (eI y), (Value.bool false), (Value.bool false), (Value.bool false), undef, undef, undef, undef] ?_
  refine wpL.off rfl rfl rfl (nb rfl) rfl ?_
  refine wI (d_pick (b := false) (v := (Value.bool false)) rfl rfl) ?_
  refine wI (d_assign rfl) ?_
  refine wF [(Value.agg #[(eI x), (eI y), (eI z)]), (ptr b11 0), (Value.bool false), (ptr b11 0), (eI x), (Value.bool true), (Value.bool true), (ptr b11 1), (eI y), (Value.bool false), (Value.bool false), (Value.bool false), undef, undef, undef, (Value.bool false)] ?_
  refine wpL.done ?_
  refine then_n ?_
  refine wpIn_ret ?_
  refine leave0 (v := (Value.bool false)) (res1 Try.results38 rfl) ?_
  exact ⟨congrArg Value.bool (fits_no (by omega)), oW⟩
 refine plain ?_
 refine wI (d_fieldAddr (j := 0) Try.underlying25 rfl s_ti3 (by decide) rfl rfl) ?_
 refine wI (d_load (v := (eI x)) ⟨_, Try.underlying3, rfl⟩ rfl a14 rfl) ?_
 refine wO (d_call (xl := [.tmp 4, .const (.int .i64 6), .const (.int .i64 8)]) (al := [(eI x), (eN 6), (eN 8)]) Try.func39 (by kernel_rfl) rfl rfl rfl (cw_is (gwithin_ok x 6 8 _) (congrArg Value.bool (decide_eq_false k0)))) ?_
 rintro _ w32 ⟨rfl, o33⟩
 replace a14 := a14.step0 o33
 replace oW := oW.tail0 o33
 refine wF ([(Value.agg #[(eI x), (eI y), (eI z)]), (ptr b11 0), (Value.bool false), (ptr b11 0), (eI x), (Value.bool false)] ++ (us 10)) ?_
 refine wI (d_move rfl) ?_
 refine wpL.off rfl rfl rfl (nb rfl) rfl ?_
 refine wF ([(Value.agg #[(eI x), (eI y), (eI z)]), (ptr b11 0), (Value.bool false), (ptr b11 0), (eI x), (Value.bool false), (Value.bool false)] ++ (us 9)) ?_
 refine wpL.off rfl rfl rfl (nb rfl) rfl ?_
 refine wpL.off rfl rfl rfl (nb rfl) rfl ?_
 refine wI (d_pick (b := false) (v := (Value.bool false)) rfl rfl) ?_
 refine wI (d_move rfl) ?_
 refine wF [(Value.agg #[(eI x), (eI y), (eI z)]), (ptr b11 0), (Value.bool false), (ptr b11 0), (eI x), (Value.bool false), (Value.bool false), undef, undef, undef, (Value.bool false), (Value.bool false), undef, undef, undef, undef] ?_
 refine wpL.off rfl rfl rfl (nb rfl) rfl ?_
 refine wpL.off rfl rfl rfl (nb rfl) rfl ?_
 refine wF [(Value.agg #[(eI x), (eI y), (eI z)]), (ptr b11 0), (Value.bool false), (ptr b11 0), (eI x), (Value.bool false), (Value.bool false), undef, undef, undef, (Value.bool false), (Value.bool false), undef, undef, undef, undef] ?_
 refine wpL.off rfl rfl rfl (nb rfl) rfl ?_
 refine wI (d_pick (b := false) (v := (Value.bool false)) rfl rfl) ?_
 refine wI (d_assign rfl) ?_
 refine wF [(Value.agg #[(eI x), (eI y), (eI z)]), (ptr b11 0), (Value.bool false), (ptr b11 0), (eI x), (Value.bool false), (Value.bool false), undef, undef, undef, (Value.bool false), (Value.bool false), undef, undef, undef, (Value.bool false)] ?_
 refine wpL.done ?_
 refine then_n ?_
 refine wpIn_ret ?_
 refine leave0 (v := (Value.bool false)) (res1 Try.results38 rfl) ?_
 exact ⟨congrArg Value.bool (fits_no (by omega)), oW⟩

set_option maxRecDepth 20000 in
set_option maxHeartbeats 1000000 in
theorem ref7CheckI_ok (x y z : Int) (W : World) :
    CW Try.prog 51 #[(Value.agg #[(eI x), (eI y), (eI z)])] W (Rt (RIs (.bool (fitsI x y z)) W)) := by
 have oW : Only No W W := Only.refl _ _
 refine enter (al := [(Value.agg #[(eI x), (eI y), (eI z)])]) (k := 30) (l := ([(Value.agg #[(eI x), (eI y), (eI z)])] ++ (us 30))) Try.func51 rfl Try.ntmps51 rfl rfl ?_
 refine wpIn_seq ?_
 refine plain ?_
 refine wO (d_box rfl rfl) ?_
 rintro _ w12 ⟨b11, rfl, g13, a14, o15⟩
 have g_oW_b11 : W.heap.size ≤ b11 := Nat.le_trans oW.size g13
 replace oW := oW.tail0 o15
 refine wI (d_assign rfl) ?_
 refine wF ([(Value.agg #[(eI x), (eI y), (eI z)]), (ptr b11 0), (Value.bool false)] ++ (us 28)) ?_
 refine wpL.done ?_
 refine then_n ?_
 refine wpIn_seq ?_
 by_cases k0 : 6 ≤ x
 ·
  by_cases k1 : x ≤ 8
  ·
   by_cases k2 : 8 ≤ y
   ·
    by_cases k3 : y ≤ 12
    ·
     by_cases k4 : 4 ≤ z
     ·
      by_cases k5 : z ≤ 8
      ·
       refine plain ?_
       refine wI (d_fieldAddr (j := 0) Try.underlying25 rfl s_ti3 (by decide) rfl rfl) ?_
       refine wI (d_load (v := (eI x)) ⟨_, Try.underlying3, rfl⟩ rfl a14 rfl) ?_
       refine wI (d_geq (k := .i64) (m := x) (n := 6) rfl rfl (decide_eq_true k0)) ?_
       refine wF ([(Value.agg #[(eI x), (eI y), (eI z)]), (ptr b11 0), (Value.bool false), (ptr b11 0), (eI x), (Value.bool true)] ++ (us 25)) ?_
       refine wI (d_move rfl) ?_
       refine wpL.onis rfl rfl rfl (nb rfl) rfl (d_fieldAddr (j := 0) Try.underlying25 rfl s_ti3 (by decide) rfl rfl) ?_
       refine wpL.onis rfl rfl rfl (nb rfl) rfl (d_load (v := (eI x)) ⟨_, Try.underlying3, rfl⟩ rfl a14 rfl) ?_
       refine wF ([(Value.agg #[(eI x), (eI y), (eI z)]), (ptr b11 0), (Value.bool false), (ptr b11 0), (eI x), (Value.bool true), (Value.bool true), (ptr b11 0), (eI x)] ++ (us 22)) ?_
       refine wpL.onis rfl rfl rfl (nb rfl) rfl (d_leq (k := .i64) (m := x) (n := 8) rfl rfl (decide_eq_true k1)) ?_
       refine wI (d_pick (b := true) (v := (Value.bool true)) rfl rfl) ?_
       refine wI (d_move rfl) ?_
       refine wF ([(Value.agg #[(eI x), (eI y), (eI z)]), (ptr b11 0), (Value.bool false), (ptr b11 0), (eI x), (Value.bool true), (Value.bool true), (ptr b11 0), (eI x), (Value.bool true), (Value.bool true), (Value.bool true)] ++ (us 19)) ?_
       refine wpL.onis rfl rfl rfl (nb rfl) rfl (d_fieldAddr (j := 1) Try.underlying25 rfl s_ti3 (by decide) rfl rfl) ?_
       refine wpL.onis rfl rfl rfl (nb rfl) rfl (d_load (v := (eI y)) ⟨_, Try.underlying3, rfl⟩ rfl a14 rfl) ?_
       refine wpL.onis rfl rfl rfl (nb rfl) rfl (d_geq (k := .i64) (m := y) (n := 8) rfl rfl (decide_eq_true k2)) ?_
       refine wF ([(Value.agg #[(eI x), (eI y), (eI z)]), (ptr b11 0), (Value.bool false), (ptr b11 0), (eI x), (Value.bool true), (Value.bool true), (ptr b11 0), (eI x), (Value.bool true), (Value.bool true), (Value.bool true), (ptr b11 1), (eI y), (Value.bool true)] ++ (us 16)) ?_
       refine wI (d_pick (b := true) (v := (Value.bool true)) rfl rfl) ?_
       refine wI (d_move rfl) ?_
       refine wpL.onis rfl rfl rfl (nb rfl) rfl (d_fieldAddr (j := 1) Try.underlying25 rfl s_ti3 (by decide) rfl rfl) ?_
       refine wF ([(Value.agg #[(eI x), (eI y), (eI z)]), (ptr b11 0), (Value.bool false), (ptr b11 0), (eI x), (Value.bool true), (Value.bool true), (ptr b11 0), (eI x), (Value.bool true), (Value.bool true), (Value.bool true), (ptr b11 1), (eI y), (Value.bool true), (Value.bool true), (Value.bool true), (ptr b11 1)] ++ (us 13)) ?_
       refine wpL.onis rfl rfl rfl (nb rfl) rfl (d_load (v := (eI y)) ⟨_, Try.underlying3, rfl⟩ rfl a14 rfl) ?_
       refine wpL.onis rfl rfl rfl (nb rfl) rfl (d_leq (k := .i64) (m := y) (n := 12) rfl rfl (decide_eq_true k3)) ?_
       refine wI (d_pick (b := true) (v := (Value.bool true)) rfl rfl) ?_
       refine wF ([(Value.agg #[(eI x), (eI y), (eI z)]), (ptr b11 0), (Value.bool false), (ptr b11 0), (eI x), (Value.bool true), (Value.bool true), (ptr b11 0), (eI x), (Value.bool true), (Value.bool true), (Value.bool true), (ptr b11 1), (eI y), (Value.bool true), (Value.bool true), (Value.bool true), (ptr b11 1), (eI y), (Value.bool true), (Value.bool true)] ++ (us 10)) ?_
       refine wI (d_move rfl) ?_
       refine wpL.onis rfl rfl rfl (nb rfl) rfl (d_fieldAddr (j := 2) Try.underlying25 rfl s_ti3 (by decide) rfl rfl) ?_
       refine wpL.onis rfl rfl rfl (nb rfl) rfl (d_load (v := (eI z)) ⟨_, Try.underlying3, rfl⟩ rfl a14 rfl) ?_
       refine wF ([(Value.agg #[(eI x), (eI y), (eI z)]), (ptr b11 0), (Value.bool false), (ptr b11 0), (eI x), (Value.bool true), (Value.bool true), (ptr b11 0), (eI x), (Value.bool true), (Value.bool true), (Value.bool true), (ptr b11 1), (eI y), (Value.bool true), (Value.bool true), (Value.bool true), (ptr b11 1), (eI y), (Value.bool true), (Value.bool true), (Value.bool true), (ptr b11 2), (eI z)] ++ (us 7)) ?_
       refine wpL.onis rfl rfl rfl (nb rfl) rfl (d_geq (k := .i64) (m := z) (n := 4) rfl rfl (decide_eq_true k4)) ?_
       refine wI (d_pick (b := true) (v := (Value.bool true)) rfl rfl) ?_
       refine wI (d_move rfl) ?_
       refine wF [(Value.agg #[(eI x), (eI y), (eI z)]), (ptr b11 0), (Value.bool false), (ptr b11 0), (eI x), (Value.bool true), (Value.bool true), (ptr b11 0), (eI x), (Value.bool true), (Value.bool true), (Value.bool true), (ptr b11 1), (eI y), (Value.bool true), (Value.bool true), (Value.bool true), (ptr b11 1), (eI y), (Value.bool true), (Value.bool true), (Value.bool true), (ptr b11 2), (eI z), (Value.bool true), (Value.bool true), (Value.bool true), undef, undef, undef, undef] ?_
       refine wpL.onis rfl rfl rfl (nb rfl) rfl (d_fieldAddr (j := 2) Try.underlying25 rfl s_ti3 (by decide) rfl rfl) ?_
       refine wpL.onis rfl rfl rfl (nb rfl) rfl (d_load (v := (eI z)) ⟨_, Try.underlying3, rfl⟩ rfl a14 rfl) ?_
       refine wpL.onis rfl rfl rfl (nb rfl) rfl (d_leq (k := .i64) (m := z) (n := 8) rfl rfl (decide_eq_true k5)) ?_
       refine wF [(Value.agg #[(eI x), (eI y), (eI z)]), (ptr b11 0), (Value.bool false), (ptr b11 0), (eI x), (Value.bool true), (Value.bool true), (ptr b11 0), (eI x), (Value.bool true), (Value.bool true), (Value.bool true), (ptr b11 1), (eI y), (Value.bool true), (Value.bool true), (Value.bool true), (ptr b11 1), (eI y), (Value.bool true), (Value.bool true), (Value.bool true), (ptr b11 2), (eI z), (Value.bool true), (Value.bool true), (Value.bool true), (ptr b11 2), (eI z), (Value.bool true), undef] ?_
       refine wI (d_pick (b := true) (v := (Value.bool true)) rfl rfl) ?_
       refine wI (d_assign rfl) ?_
       refine wF [(Value.agg #[(eI x), (eI y), (eI z)]), (ptr b11 0), (Value.bool true), (ptr b11 0), (eI x), (Value.bool true), (Value.bool true), (ptr b11 0), (eI x), (Value.bool true), (Value.bool true), (Value.bool true), (ptr b11 1), (eI y), (Value.bool true), (Value.bool true), (Value.bool true), (ptr b11 1), (eI y), (Value.bool true), (Value.bool true), (Value.bool true), (ptr b11 2), (eI z), (Value.bool true), (Value.bool true), (Value.bool true), (ptr b11 2), (eI z), (Value.bool true), (Value.bool true)] ?_
       refine wpL.done ?_
       refine then_n ?_
       refine forget (fun zf16 => ([(zf16 0), (zf16 1), (Value.bool true)] ++ (zs zf16 3 28))) (by kernel_rfl) (fun zf16 => ?_)
       refine wpIn_ret ?_
       refine leave0 (v := (Value.bool true)) (res1 Try.results51 rfl) ?_
       exact ⟨congrArg Value.bool (fits_is (by omega)), oW⟩
      refine plain ?_
      refine wI (d_fieldAddr (j := 0) Try.underlying25 rfl s_ti3 (by decide) rfl rfl) ?_
      refine wI (d_load (v := (eI x)) ⟨_, Try.underlying3, rfl⟩ rfl a14 rfl) ?_
      refine wI (d_geq (k := .i64) (m := x) (n := 6) rfl rfl (decide_eq_true k0)) ?_
      refine wF ([(Value.agg #[(eI x), (eI y), (eI z)]), (ptr b11 0), (Value.bool false), (ptr b11 0), (eI x), (Value.bool true)] ++ (us 25)) ?_
      refine wI (d_move rfl) ?_
      refine wpL.onis rfl rfl rfl (nb rfl) rfl (d_fieldAddr (j := 0) Try.underlying25 rfl s_ti3 (by decide) rfl rfl) ?_
      refine wpL.onis rfl rfl rfl (nb rfl) rfl (d_load (v := (eI x)) ⟨_, Try.underlying3, rfl⟩ rfl a14 rfl) ?_
      refine wF ([(Value.agg #[(eI x), (eI y), (eI z)]), (ptr b11 0), (Value.bool false), (ptr b11 0), (eI x), (Value.bool true), (Value.bool true), (ptr b11 0), (eI x)] ++ (us 22)) ?_
      refine wpL.onis rfl rfl rfl (nb rfl) rfl (d_leq (k := .i64) (m := x) (n := 8) rfl rfl (decide_eq_true k1)) ?_
      refine wI (d_pick (b := true) (v := (Value.bool true)) rfl rfl) ?_
      refine wI (d_move rfl) ?_
      refine wF ([(Value.agg #[(eI x), (eI y), (eI z)]), (ptr b11 0), (Value.bool false), (ptr b11 0), (eI x), (Value.bool true), (Value.bool true), (ptr b11 0), (eI x), (Value.bool true), (Value.bool true), (Value.bool true)] ++ (us 19)) ?_
      refine wpL.onis rfl rfl rfl (nb rfl) rfl (d_fieldAddr (j := 1) Try.underlying25 rfl s_ti3 (by decide) rfl rfl) ?_
      refine wpL.onis rfl rfl rfl (nb rfl) rfl (d_load (v := (eI y)) ⟨_, Try.underlying3, rfl⟩ rfl a14 rfl) ?_
      refine wpL.onis rfl rfl rfl (nb rfl) rfl (d_geq (k := .i64) (m := y) (n := 8) rfl rfl (decide_eq_true k2)) ?_
      refine wF ([(Value.agg #[(eI x), (eI y), (eI z)]), (ptr b11 0), (Value.bool false), (ptr b11 0), (eI x), (Value.bool true), (Value.bool true), (ptr b11 0), (eI x), (Value.bool true), (Value.bool true), (Value.bool true), (ptr b11 1), (eI y), (Value.bool true)] ++ (us 16)) ?_
      refine wI (d_pick (b := true) (v := (Value.bool true)) rfl rfl) ?_
      refine wI (d_move rfl) ?_
      refine wpL.onis rfl rfl rfl (nb rfl) rfl (d_fieldAddr (j := 1) Try.underlying25 rfl s_ti3 (by decide) rfl rfl) ?_
      refine wF ([(Value.agg #[(eI x), (eI y), (eI z)]), (ptr b11 0), (Value.bool false), (ptr b11 0), (eI x), (Value.bool true), (Value.bool true), (ptr b11 0), (eI x), (Value.bool true), (Value.bool true), (Value.bool true), (ptr b11 1), (eI y), (Value.bool true), (Value.bool true), (Value.bool true), (ptr b11 1)] ++ (us 13)) ?_
      refine wpL.onis rfl rfl rfl (nb rfl) rfl (d_load (v := (eI y)) ⟨_, Try.underlying3, rfl⟩ rfl a14 rfl) ?_
      refine wpL.onis rfl rfl rfl (nb rfl) rfl (d_leq (k := .i64) (m := y) (n := 12) rfl rfl (decide_eq_true k3)) ?_
      refine wI (d_pick (b := true) (v := (Value.bool true)) rfl rfl) ?_
      refine wF ([(Value.agg #[(eI x), (eI y), (eI z)]), (ptr b11 0), (Value.bool false), (ptr b11 0), (eI x), (Value.bool true), (Value.bool true), (ptr b11 0), (eI x), (Value.bool true), (Value.bool true), (Value.bool true), (ptr b11 1), (eI y), (Value.bool true), (Value.bool true), (Value.bool true), (ptr b11 1), (eI y), (Value.bool true), (Value.bool true)] ++ (us 10)) ?_
      refine wI (d_move rfl) ?_
      refine wpL.onis rfl rfl rfl (nb rfl) rfl (d_fieldAddr (j := 2) Try.underlying25 rfl s_ti3 (by decide) rfl rfl) ?_
      refine wpL.onis rfl rfl rfl (nb rfl) rfl (d_load (v := (eI z)) ⟨_, Try.underlying3, rfl⟩ rfl a14 rfl) ?_
      refine wF ([(Value.agg #[(eI x), (eI y), (eI z)]), (ptr b11 0), (Value.bool false), (ptr b11 0), (eI x), (Value.bool true), (Value.bool true), (ptr b11 0), (eI x), (Value.bool true), (Value.bool true), (Value.bool true), (ptr b11 1), (eI y), (Value.bool true), (Value.bool true), (Value.bool true), (ptr b11 1), (eI y), (Value.bool true), (Value.bool true), (Value.bool true), (ptr b11 2), (eI z)] ++ (us 7)) ?_
      refine wpL.onis rfl rfl rfl (nb rfl) rfl (d_geq (k := .i64) (m := z) (n := 4) rfl rfl (decide_eq_true k4)) ?_
      refine wI (d_pick (b := true) (v := (Value.bool true)) rfl rfl) ?_
      refine wI (d_move rfl) ?_
      refine wF [(Value.agg #[(eI x), (eI y), (eI z)]), (ptr b11 0), (Value.bool false), (ptr b11 0), (eI x), (Value.bool true), (Value.bool true), (ptr b11 0), (eI x), (Value.bool true), (Value.bool true), (Value.bool true), (ptr b11 1), (eI y), (Value.bool true), (Value.bool true), (Value.bool true), (ptr b11 1), (eI y), (Value.bool true), (Value.bool true), (Value.bool true), (ptr b11 2), (eI z), (Value.bool true), (Value.bool true), (Value.bool true), undef, undef, undef, undef] ?_
      refine wpL.onis rfl rfl rfl (nb rfl) rfl (d_fieldAddr (j := 2) Try.underlying25 rfl s_ti3 (by decide) rfl rfl) ?_
      refine wpL.onis rfl rfl rfl (nb rfl) rfl (d_load (v := (eI z)) ⟨_, Try.underlying3, rfl⟩ rfl a14 rfl) ?_
      refine wpL.onis rfl rfl rfl (nb rfl) rfl (d_leq (k := .i64) (m := z) (n := 8) rfl rfl (decide_eq_false k5)) ?_
      refine wF [(Value.agg #[(eI x), (eI y), (eI z)]), (ptr b11 0), (Value.bool false), (ptr b11 0), (eI x), (Value.bool true), (Value.bool true), (ptr b11 0), (eI x), (Value.bool true), (Value.bool true), (Value.bool true), (ptr b11 1), (eI y), (Value.bool true), (Value.bool true), (Value.bool true), (ptr b11 1), (eI y), (Value.bool true), (Value.bool true), (Value.bool true), (ptr b11 2), (eI z), (Value.bool true), (Value.bool true), (Value.bool true), (ptr b11 2), (eI z), (Value.bool false), undef] ?_
      refine wI (d_pick (b := true) (v := (Value.bool false)) rfl rfl) ?_
      refine wI (d_assign rfl) ?_
      refine wF [(Value.agg #[(eI x), (eI y), (eI z)]), (ptr b11 0), (Value.bool false), (ptr b11 0), (eI x), (Value.bool true), (Value.bool true), (ptr b11 0), (eI x), (Value.bool true), (Value.bool true), (Value.bool true), (ptr b11 1), (eI y), (Value.bool true), (Value.bool true), (Value.bool true), (ptr b11 1), (eI y), (Value.bool true), (Value.bool true), (Value.bool true), (ptr b11 2), (eI z), (Value.bool true), (Value.bool true), (Value.bool true), (ptr b11 2), (eI z), (Value.bool false), (Value.bool false)] ?_
      refine wpL.done ?_
      refine then_n ?_
      refine forget (fun zf17 => ([(zf17 0), (zf17 1), (Value.bool false)] ++ (zs zf17 3 28))) (by kernel_rfl) (fun zf17 => ?_)
      refine wpIn_ret ?_
      refine leave0 (v := (Value.bool false)) (res1 Try.results51 rfl) ?_
      exact ⟨congrArg Value.bool (fits_no (by omega)), oW⟩
     refine plain ?_
     refine wI (d_fieldAddr (j := 0) Try.underlying25 rfl s_ti3 (by decide) rfl rfl) ?_
     refine wI (d_load (v := (eI x)) ⟨_, Try.underlying3, rfl⟩ rfl a14 rfl) ?_
     refine wI (d_geq (k := .i64) (m := x) (n := 6) rfl rfl (decide_eq_true k0)) ?_
     refine wF ([(Value.agg #[(eI x), (eI y), (eI z)]), (ptr b11 0), (Value.bool false), (ptr b11 0), (eI x), (Value.bool true)] ++ (us 25)) ?_
     refine wI (d_move rfl) ?_
     refine wpL.onis rfl rfl rfl (nb rfl) rfl (d_fieldAddr (j := 0) Try.underlying25 rfl s_ti3 (by decide) rfl rfl) ?_
     refine wpL.onis rfl rfl rfl (nb rfl) rfl (d_load (v := (eI x)) ⟨_, Try.underlying3, rfl⟩ rfl a14 rfl) ?_
     refine wF ([(Value.agg #[(eI x), (eI y), (eI z)]), (ptr b11 0), (Value.bool false), (ptr b11 0), (eI x), (Value.bool true), (Value.bool true), (ptr b11 0), (eI x)] ++ (us 22)) ?_
     refine wpL.onis rfl rfl rfl (nb rfl) rfl (d_leq (k := .i64) (m := x) (n := 8) rfl rfl (decide_eq_true k1)) ?_
     refine wI (d_pick (b := true) (v := (Value.bool true)) rfl rfl) ?_
     refine wI (d_move rfl) ?_
     refine wF ([(Value.agg #[(eI x), (eI y), (eI z)]), (ptr b11 0), (Value.bool false), (ptr b11 0), (eI x), (Value.bool true), (Value.bool true), (ptr b11 0), (eI x), (Value.bool true), (Value.bool true), (Value.bool true)] ++ (us 19)) ?_
     refine wpL.onis rfl rfl rfl (nb rfl) rfl (d_fieldAddr (j := 1) Try.underlying25 rfl s_ti3 (by decide) rfl rfl) ?_
     refine wpL.onis rfl rfl rfl (nb rfl) rfl (d_load (v := (eI y)) ⟨_, Try.underlying3, rfl⟩ rfl a14 rfl) ?_
     refine wpL.onis rfl rfl rfl (nb rfl) rfl (d_geq (k := .i64) (m := y) (n := 8) rfl rfl (decide_eq_true k2)) ?_
     refine wF ([(Value.agg #[(eI x), (eI y), (eI z)]), (ptr b11 0), (Value.bool false), (ptr b11 0), (eI x), (Value.bool true), (Value.bool true), (ptr b11 0), (eI x), (Value.bool true), (Value.bool true), (Value.bool true), (ptr b11 1), (eI y), (Value.bool true)] ++ (us 16)) ?_
     refine wI (d_pick (b := true) (v := (Value.bool true)) rfl rfl) ?_
     refine wI (d_move rfl) ?_
     refine wpL.onis rfl rfl rfl (nb rfl) rfl (d_fieldAddr (j := 1) Try.underlying25 rfl s_ti3 (by decide) rfl rfl) ?_
     refine wF ([(Value.agg #[(eI x), (eI y), (eI z)]), (ptr b11 0), (Value.bool false), (ptr b11 0), (eI x), (Value.bool true), (Value.bool true), (ptr b11 0), (eI x), (Value.bool true), (Value.bool true), (Value.bool true), (ptr b11 1), (eI y), (Value.bool true), (Value.bool true), (Value.bool true), (ptr b11 1)] ++ (us 13)) ?_
     refine wpL.onis rfl rfl rfl (nb rfl) rfl (d_load (v := (eI y)) ⟨_, Try.underlying3, rfl⟩ rfl a14 rfl) ?_
     refine wpL.onis rfl rfl rfl (nb rfl) rfl (d_leq (k := .i64) (m := y) (n := 12) rfl rfl (decide_eq_true k3)) ?_
     refine wI (d_pick (b := true) (v := (Value.bool true)) rfl rfl) ?_
     refine wF ([(Value.agg #[(eI x), (eI y), (eI z)]), (ptr b11 0), (Value.bool false), (ptr b11 0), (eI x), (Value.bool true), (Value.bool true), (ptr b11 0), (eI x), (Value.bool true), (Value.bool true), (Value.bool true), (ptr b11 1), (eI y), (Value.bool true), (Value.bool true), (Value.bool true), (ptr b11 1), (eI y), (Value.bool true), (Value.bool true)] ++ (us 10)) ?_
     refine wI (d_move rfl) ?_
     refine wpL.onis rfl rfl rfl (nb rfl) rfl (d_fieldAddr (j := 2) Try.underlying25 rfl s_ti3 (by decide) rfl rfl) ?_
     refine wpL.onis rfl rfl rfl (nb rfl) rfl (d_load (v := (eI z)) ⟨_, Try.underlying3, rfl⟩ rfl a14 rfl) ?_
     refine wF ([(Value.agg #[(eI x), (eI y), (eI z)]), (ptr b11 0), (Value.bool false), (ptr b11 0), (eI x), (Value.bool true), (Value.bool true), (ptr b11 0), (eI x), (Value.bool true), (Value.bool true), (Value.bool true), (ptr b11 1), (eI y), (Value.bool true), (Value.bool true), (Value.bool true), (ptr b11 1), (eI y), (Value.bool true), (Value.bool true), (Value.bool true), (ptr b11 2), (eI z)] ++ (us 7)) ?_
     refine wpL.onis rfl rfl rfl (nb rfl) rfl (d_geq (k := .i64) (m := z) (n := 4) rfl rfl (decide_eq_false k4)) ?_
     refine wI (d_pick (b := true) (v := (Value.bool false)) rfl rfl) ?_
     refine wI (d_move rfl) ?_
     refine wF [(Value.agg #[(eI x), (eI y), (eI z)]), (ptr b11 0), (Value.bool false), (ptr b11 0), (eI x), (Value.bool true), (Value.bool true), (ptr b11 0), (eI x), (Value.bool true), (Value.bool true), (Value.bool true), (ptr b11 1), (eI y), (Value.bool true), (Value.bool true), (Value.bool true), (ptr b11 1), (eI y), (Value.bool true), (Value.bool true), (Value.bool true), (ptr b11 2), (eI z), (Value.bool false), (Value.bool false), (Value.bool false), undef, undef, undef, undef] ?_
     refine wpL.off rfl rfl rfl (nb rfl) rfl ?_
     refine wpL.off rfl rfl rfl (nb rfl) rfl ?_
     refine wF [(Value.agg #[(eI x), (eI y), (eI z)]), (ptr b11 0), (Value.bool false), (ptr b11 0), (eI x), (Value.bool true), (Value.bool true), (ptr b11 0), (eI x), (Value.bool true), (Value.bool true), (Value.bool true), (ptr b11 1), (eI y), (Value.bool true), (Value.bool true), (Value.bool true), (ptr b11 1), (eI y), (Value.bool true), (Value.bool true), (Value.bool true), (ptr b11 2), (eI z), (Value.bool false), (Value.bool false), (Value.bool false), undef, undef, undef, undef] ?_
     refine wpL.off rfl rfl rfl (nb rfl) rfl ?_
     refine wI (d_pick (b := false) (v := (Value.bool false)) rfl rfl) ?_
     refine wI (d_assign rfl) ?_
     refine wF [(Value.agg #[(eI x), (eI y), (eI z)]), (ptr b11 0), (Value.bool false), (ptr b11 0), (eI x), (Value.bool true), (Value.bool true), (ptr b11 0), (eI x), (Value.bool true), (Value.bool true), (Value.bool true), (ptr b11 1), (eI y), (Value.bool true), (Value.bool true), (Value.bool true), (ptr b11 1), (eI y), (Value.bool true), (Value.bool true), (Value.bool true), (ptr b11 2), (eI z), (Value.bool false), (Value.bool false), (Value.bool false), undef, undef, undef, (Value.bool false)] ?_
     refine wpL.done ?_
     refine then_n ?_
     refine forget (fun zf18 => ([(zf18 0), (zf18 1), (Value.bool false)] ++ (zs zf18 3 28))) (by kernel_rfl) (fun zf18 => ?_)
     refine wpIn_ret ?_
     refine leave0 (v := (Value.bool false)) (res1 Try.results51 rfl) ?_
     exact ⟨congrArg Value.bool (fits_no (by omega)), oW⟩
    refine plain ?_
    refine wI (d_fieldAddr (j := 0) Try.underlying25 rfl s_ti3 (by decide) rfl rfl) ?_
    refine wI (d_load (v := (eI x)) ⟨_, Try.underlying3, rfl⟩ rfl a14 rfl) ?_
    refine wI (d_geq (k := .i64) (m := x) (n := 6) rfl rfl (decide_eq_true k0)) ?_
    refine wF ([(Value.agg #[(eI x), (eI y), (eI z)]), (ptr b11 0), (Value.bool false), (ptr b11 0), (eI x), (Value.bool true)] ++ (us 25)) ?_
    refine wI (d_move rfl) ?_
    refine wpL.onis rfl rfl rfl (nb rfl) rfl (d_fieldAddr (j := 0) Try.underlying25 rfl s_ti3 (by decide) rfl rfl) ?_
    refine wpL.onis rfl rfl rfl (nb rfl) rfl (d_load (v := (eI x)) ⟨_, Try.underlying3, rfl⟩ rfl a14 rfl) ?_
    refine wF ([(Value.agg #[(eI x), (eI y), (eI z)]), (ptr b11 0), (Value.bool false), (ptr b11 0), (eI x), (Value.bool true), (Value.bool true), (ptr b11 0), (eI x)] ++ (us 22)) ?_
    refine wpL.onis rfl rfl rfl (nb rfl) rfl (d_leq (k := .i64) (m := x) (n := 8) rfl rfl (decide_eq_true k1)) ?_
    refine wI (d_pick (b := true) (v := (Value.bool true)) rfl rfl) ?_
    refine wI (d_move rfl) ?_
    refine wF ([(Value.agg #[(eI x), (eI y), (eI z)]), (ptr b11 0), (Value.bool false), (ptr b11 0), (eI x), (Value.bool true), (Value.bool true), (ptr b11 0), (eI x), (Value.bool true), (Value.bool true), (Value.bool true)] ++ (us 19)) ?_
    refine wpL.onis rfl rfl rfl (nb rfl) rfl (d_fieldAddr (j := 1) Try.underlying25 rfl s_ti3 (by decide) rfl rfl) ?_
    refine wpL.onis rfl rfl rfl (nb rfl) rfl (d_load (v := (eI y)) ⟨_, Try.underlying3, rfl⟩ rfl a14 rfl) ?_
    refine wpL.onis rfl rfl rfl (nb rfl) rfl (d_geq (k := .i64) (m := y) (n := 8) rfl rfl (decide_eq_true k2)) ?_
    refine wF ([(Value.agg #[(eI x), (eI y), (eI z)]), (ptr b11 0), (Value.bool false), (ptr b11 0), (eI x), (Value.bool true), (Value.bool true), (ptr b11 0), (eI x), (Value.bool true), (Value.bool true), (Value.bool true), (ptr b11 1), (eI y), (Value.bool true)] ++ (us 16)) ?_
    refine wI (d_pick (b := true) (v := (Value.bool true)) rfl rfl) ?_
    refine wI (d_move rfl) ?_
    refine wpL.onis rfl rfl rfl (nb rfl) rfl (d_fieldAddr (j := 1) Try.underlying25 rfl s_ti3 (by decide) rfl rfl) ?_
    refine wF ([(Value.agg #[(eI x), (eI y), (eI z)]), (ptr b11 0), (Value.bool false), (ptr b11 0), (eI x), (Value.bool true), (Value.bool true), (ptr b11 0), (eI x), (Value.bool true), (Value.bool true), (Value.bool true), (ptr b11 1), (eI y), (Value.bool true), (Value.bool true), (Value.bool true), (ptr b11 1)] ++ (us 13)) ?_
    refine wpL.onis rfl rfl rfl (nb rfl) rfl (d_load (v := (eI y)) ⟨_, Try.underlying3, rfl⟩ rfl a14 rfl) ?_
    refine wpL.onis rfl rfl rfl (nb rfl) rfl (d_leq (k := .i64) (m := y) (n := 12) rfl rfl (decide_eq_false k3)) ?_
    refine wI (d_pick (b := true) (v := (Value.bool false)) rfl rfl) ?_
    refine wF ([(Value.agg #[(eI x), (eI y), (eI z)]), (ptr b11 0), (Value.bool false), (ptr b11 0), (eI x), (Value.bool true), (Value.bool true), (ptr b11 0), (eI x), (Value.bool true), (Value.bool true), (Value.bool true), (ptr b11 1), (eI y), (Value.bool true), (Value.bool true), (Value.bool true), (ptr b11 1), (eI y), (Value.bool false), (Value.bool false)] ++ (us 10)) ?_
    refine wI (d_move rfl) ?_
    refine wpL.off rfl rfl rfl (nb rfl) rfl ?_
    refine wF ([(Value.agg #[(eI x), (eI y), (eI z)]), (ptr b11 0), (Value.bool false), (ptr b11 0), (eI x), (Value.bool true), (Value.bool true), (ptr b11 0), (eI x), (Value.bool true), (Value.bool true), (Value.bool true), (ptr b11 1), (eI y), (Value.bool true), (Value.bool true), (Value.bool true), (ptr b11 1), (eI y), (Value.bool false), (Value.bool false), (Value.bool false)] ++ (us 9)) ?_
    refine wpL.off rfl rfl rfl (nb rfl) rfl ?_
    refine wpL.off rfl rfl rfl (nb rfl) rfl ?_
    refine wI (d_pick (b := false) (v := (Value.bool false)) rfl rfl) ?_
    refine wI (d_move rfl) ?_
    refine wF [(Value.agg #[(eI x), (eI y), (eI z)]), (ptr b11 0), (Value.bool false), (ptr b11 0), (eI x), (Value.bool true), (Value.bool true), (ptr b11 0), (eI x), (Value.bool true), (Value.bool true), (Value.bool true), (ptr b11 1), (eI y), (Value.bool true), (Value.bool true), (Value.bool true), (ptr b11 1), (eI y), (Value.bool false), (Value.bool false), (Value.bool false), undef, undef, undef, (Value.bool false), (Value.bool false), undef, undef, undef, undef] ?_
    refine wpL.off rfl rfl rfl (nb rfl) rfl ?_
    refine wpL.off rfl rfl rfl (nb rfl) rfl ?_
    refine wF [(Value.agg #[(eI x), (eI y), (eI z)]), (ptr b11 0), (Value.bool false), (ptr b11 0), (eI x), (Value.bool true), (Value.bool true), (ptr b11 0), (eI x), (Value.bool true), (Value.bool true), (Value.bool true), (ptr b11 1), (eI y), (Value.bool true), (Value.bool true), (Value.bool true), (ptr b11 1), (eI y), (Value.bool false), (Value.bool false), (Value.bool false), undef, undef, undef, (Value.bool false), (Value.bool false), undef, undef, undef, undef] ?_
    refine wpL.off rfl rfl rfl (nb rfl) rfl ?_
    refine wI (d_pick (b := false) (v := (Value.bool false)) rfl rfl) ?_
    refine wI (d_assign rfl) ?_
    refine wF [(Value.agg #[(eI x), (eI y), (eI z)]), (ptr b11 0), (Value.bool false), (ptr b11 0), (eI x), (Value.bool true), (Value.bool true), (ptr b11 0), (eI x), (Value.bool true), (Value.bool true), (Value.bool true), (ptr b11 1), (eI y), (Value.bool true), (Value.bool true), (Value.bool true), (ptr b11 1), (eI y), (Value.bool false), (Value.bool false), (Value.bool false), undef, undef, undef, (Value.bool false), (Value.bool false), undef, undef, undef, (Value.bool false)] ?_
    refine wpL.done ?_
    refine then_n ?_
    refine forget (fun zf19 => ([(zf19 0), (zf19 1), (Value.bool false)] ++ (zs zf19 3 28))) (by kernel_rfl) (fun zf19 => ?_)
    refine wpIn_ret ?_
    refine leave0 (v := (Value.bool false)) (res1 Try.results51 rfl) ?_
    exact ⟨congrArg Value.bool (fits_no (by omega)), oW⟩
   refine plain ?_
   refine wI (d_fieldAddr (j := 0) Try.underlying25 rfl s_ti3 (by decide) rfl rfl) ?_
   refine wI (d_load (v := (eI x)) ⟨_, Try.underlying3, rfl⟩ rfl a14 rfl) ?_
   refine wI (d_geq (k := .i64) (m := x) (n := 6) rfl rfl (decide_eq_true k0)) ?_
   refine wF ([(Value.agg #[(eI x), (eI y), (eI z)]), (ptr b11 0), (Value.bool false), (ptr b11 0), (eI x), (Value.bool true)] ++ (us 25)) ?_
   refine wI (d_move rfl) ?_
   refine wpL.onis rfl rfl rfl (nb rfl) rfl (d_fieldAddr (j := 0) Try.underlying25 rfl s_ti3 (by decide) rfl rfl) ?_
   refine wpL.onis rfl rfl rfl (nb rfl) rfl (d_load (v := (eI x)) ⟨_, Try.underlying3, rfl⟩ rfl a14 rfl) ?_
   refine wF ([(Value.agg #[(eI x), (eI y), (eI z)]), (ptr b11 0), (Value.bool false), (ptr b11 0), (eI x), (Value.bool true), (Value.bool true), (ptr b11 0), (eI x)] ++ (us 22)) ?_
   refine wpL.onis rfl rfl rfl (nb rfl) rfl (d_leq (k := .i64) (m := x) (n := 8) rfl rfl (decide_eq_true k1)) ?_
   refine wI (d_pick (b := true) (v := (Value.bool true)) rfl rfl) ?_
   refine wI (d_move rfl) ?_
   refine wF ([(Value.agg #[(eI x), (eI y), (eI z)]), (ptr b11 0), (Value.bool false), (ptr b11 0), (eI x), (Value.bool true), (Value.bool true), (ptr b11 0), (eI x), (Value.bool true), (Value.bool true), (Value.bool true)] ++ (us 19)) ?_
   refine wpL.onis rfl rfl rfl (nb rfl) rfl (d_fieldAddr (j := 1) Try.underlying25 rfl s_ti3 (by decide) rfl rfl) ?_
   refine wpL.onis rfl rfl rfl (nb rfl) rfl (d_load (v := (eI y)) ⟨_, Try.underlying3, rfl⟩ rfl a14 rfl) ?_
   refine wpL.onis rfl rfl rfl (nb rfl) rfl (d_geq (k := .i64) (m := y) (n := 8) rfl rfl (decide_eq_false k2)) ?_
   refine wF ([(Value.agg #[(eI x), (eI y), (eI z)]), (ptr b11 0), (Value.bool false), (ptr b11 0), (eI x), (Value.bool true), (Value.bool true), (ptr b11 0), (eI x), (Value.bool true), (Value.bool true), (Value.bool true), (ptr b11 1), (eI y), (Value.bool false)] ++ (us 16)) ?_
   refine wI (d_pick (b := true) (v := (Value.bool false)) rfl rfl) ?_
   refine wI (d_move rfl) ?_
   refine wF ([(Value.agg #[(eI x), (eI y), (eI z)]), (ptr b11 0), (Value.bool false), (ptr b11 0), (eI x), (Value.bool true), (Value.bool true), (ptr b11 0), (eI x), (Value.bool true), (Value.bool true), (Value.bool true), (ptr b11 1), (eI y), (Value.bool false), (Value.bool false), (Value.bool false)] ++ (us 14)) ?_
   refine wpL.off rfl rfl rfl (nb rfl) rfl ?_
   refine wpL.off rfl rfl rfl (nb rfl) rfl ?_
   refine wpL.off rfl rfl rfl (nb rfl) rfl ?_
   refine wI (d_pick (b := false) (v := (Value.bool false)) rfl rfl) ?_
   refine wF ([(Value.agg #[(eI x), (eI y), (eI z)]), (ptr b11 0), (Value.bool false), (ptr b11 0), (eI x), (Value.bool true), (Value.bool true), (ptr b11 0), (eI x), (Value.bool true), (Value.bool true), (Value.bool true), (ptr b11 1), (eI y), (Value.bool false), (Value.bool false), (Value.bool false), undef, undef, undef, (Value.bool false)] ++ (us 10)) ?_
   refine wI (d_move rfl) ?_
   refine wpL.off rfl rfl rfl (nb rfl) rfl ?_
   refine wF ([(Value.agg #[(eI x), (eI y), (eI z)]), (ptr b11 0), (Value.bool false), (ptr b11 0), (eI x), (Value.bool true), (Value.bool true), (ptr b11 0), (eI x), (Value.bool true), (Value.bool true), (Value.bool true), (ptr b11 1), (eI y), (Value.bool false), (Value.bool false), (Value.bool false), undef, undef, undef, (Value.bool false), (Value.bool false)] ++ (us 9)) ?_
   refine wpL.off rfl rfl rfl (nb rfl) rfl ?_
   refine wpL.off rfl rfl rfl (nb rfl) rfl ?_
   refine wI (d_pick (b := false) (v := (Value.bool false)) rfl rfl) ?_
   refine wI (d_move rfl) ?_
   refine wF [(Value.agg #[(eI x), (eI y), (eI z)]), (ptr b11 0), (Value.bool false), (ptr b11 0), (eI x), (Value.bool true), (Value.bool true), (ptr b11 0), (eI x), (Value.bool true), (Value.bool true), (Value.bool true), (ptr b11 1), (eI y), (Value.bool false), (Value.bool false), (Value.bool false), undef, undef, undef, (Value.bool false), (Value.bool false), undef, undef, undef, (Value.bool false), (Value.bool false), undef, undef, undef, undef] ?_
   refine wpL.off rfl rfl rfl (nb rfl) rfl ?_
   refine wpL.off rfl rfl rfl (nb rfl) rfl ?_
   refine wF [(Value.agg #[(eI x), (eI y), (eI z)]), (ptr b11 0), (Value.bool false), (ptr b11 0), (eI x), (Value.bool true), (Value.bool true), (ptr b11 0), (eI x), (Value.bool true), (Value.bool true), (Value.bool true), (ptr b11 1), (eI y), (Value.bool false), (Value.bool false), (Value.bool false), undef, undef, undef, (Value.bool false), (Value.bool false), undef, undef, undef, (Value.bool false), (Value.bool false), undef, undef, undef, undef] ?_
   refine wpL.off rfl rfl rfl (nb rfl) rfl ?_
   refine wI (d_pick (b := false) (v := (Value.bool false)) rfl rfl) ?_
   refine wI (d_assign rfl) ?_
   refine wF [(Value.agg #[(eI x), (eI y), (eI z)]), (ptr b11 0), (Value.bool false), (ptr b11 0), (eI x), (Value.bool true), (Value.bool true), (ptr b11 0), (eI x), (Value.bool true), (Value.bool true), (Value.bool true), (ptr b11 1), (eI y), (Value.bool false), (Value.bool false), (Value.bool false), undef, undef, undef, (Value.bool false), (Value.bool false), undef, undef, undef, (Value.bool false), (Value.bool false), undef, undef, undef, (Value.bool false)] ?_
   refine wpL.done ?_
   refine then_n ?_
   refine forget (fun zf20 => ([(zf20 0), (zf20 1), (Value.bool false)] ++ (zs zf20 3 28))) (by kernel_rfl) (fun zf20 => ?_)
   refine wpIn_ret ?_
   refine leave0 (v := (Value.bool false)) (res1 Try.results51 rfl) ?_
   exact ⟨congrArg Value.bool (fits_no (by omega)), oW⟩
  refine plain ?_
  refine wI (d_fieldAddr (j := 0) Try.underlying25 rfl s_ti3 (by decide) rfl rfl) ?_
  refine wI (d_load (v := (eI x)) ⟨_, Try.underlying3, rfl⟩ rfl a14 rfl) ?_
  refine wI (d_geq (k := .i64) (m := x) (n := 6) rfl rfl (decide_eq_true k0)) ?_
  refine wF ([(Value.agg #[(eI x), (eI y), (eI z)]), (ptr b11 0), (Value.bool false), (ptr b11 0), (eI x), (Value.bool true)] ++ (us 25)) ?_
  refine wI (d_move rfl) ?_
  refine wpL.onis rfl rfl rfl (nb rfl) rfl (d_fieldAddr (j := 0) Try.underlying25 rfl s_ti3 (by decide) rfl rfl) ?_
  refine wpL.onis rfl rfl rfl (nb rfl) rfl (d_load (v := (eI x)) ⟨_, Try.underlying3, rfl⟩ rfl a14 rfl) ?_
  refine wF ([(Value.agg #[(eI x), (eI y), (eI z)]), (ptr b11 0), (Value.bool false), (ptr b11 0), (eI x), (Value.bool true), (Value.bool true), (ptr b11 0), (eI x)] ++ (us 22)) ?_
  refine wpL.onis rfl rfl rfl (nb rfl) rfl (d_leq (k := .i64) (m := x) (n := 8) rfl rfl (decide_eq_false k1)) ?_
  refine wI (d_pick (b := true) (v := (Value.bool false)) rfl rfl) ?_
  refine wI (d_move rfl) ?_
  refine wF ([(Value.agg #[(eI x), (eI y), (eI z)]), (ptr b11 0), (Value.bool false), (ptr b11 0), (eI x), (Value.bool true), (Value.bool true), (ptr b11 0), (eI x), (Value.bool false), (Value.bool false), (Value.bool false)] ++ (us 19)) ?_
  refine wpL.off rfl rfl rfl (nb rfl) rfl ?_
  refine wpL.off rfl rfl rfl (nb rfl) rfl ?_
  refine wF ([(Value.agg #[(eI x), (eI y), (eI z)]), (ptr b11 0), (Value.bool false), (ptr b11 0), (eI x), (Value.bool true), (Value.bool true), (ptr b11 0), (eI x), (Value.bool false), (Value.bool false), (Value.bool false)] ++ (us 19)) ?_
  refine wpL.off rfl rfl rfl (nb rfl) rfl ?_
  refine wI (d_pick (b := false) (v := (Value.bool false)) rfl rfl) ?_
  refine wI (d_move rfl) ?_
  refine wF ([(Value.agg #[(eI x), (eI y), (eI z)]), (ptr b11 0), (Value.bool false), (ptr b11 0), (eI x), (Value.bool true), (Value.bool true), (ptr b11 0), (eI x), (Value.bool false), (Value.bool false), (Value.bool false), undef, undef, undef, (Value.bool false), (Value.bool false)] ++ (us 14)) ?_
  refine wpL.off rfl rfl rfl (nb rfl) rfl ?_
  refine wpL.off rfl rfl rfl (nb rfl) rfl ?_
  refine wpL.off rfl rfl rfl (nb rfl) rfl ?_
  refine wI (d_pick (b := false) (v := (Value.bool false)) rfl rfl) ?_
  refine wF ([(Value.agg #[(eI x), (eI y), (eI z)]), (ptr b11 0), (Value.bool false), (ptr b11 0), (eI x), (Value.bool true), (Value.bool true), (ptr b11 0), (eI x), (Value.bool false), (Value.bool false), (Value.bool false), undef, undef, undef, (Value.bool false), (Value.bool false), undef, undef, undef, (Value.bool false)] ++ (us 10)) ?_
  refine wI (d_move rfl) ?_
  refine wpL.off rfl rfl rfl (nb rfl) rfl ?_
  refine wF ([(Value.agg #[(eI x), (eI y), (eI z)]), (ptr b11 0), (Value.bool false), (ptr b11 0), (eI x), (Value.bool true), (Value.bool true), (ptr b11 0), (eI x), (Value.bool false), (Value.bool false), (Value.bool false), undef, undef, undef, (Value.bool false), (Value.bool false), undef, undef, undef, (Value.bool false), (Value.bool false)] ++ (us 9)) ?_
  refine wpL.off rfl rfl rfl (nb rfl) rfl ?_
  refine wpL.off rfl rfl rfl (nb rfl) rfl ?_
  refine wI (d_pick (b := false) (v := (Value.bool false)) rfl rfl) ?_
  refine wI (d_move rfl) ?_
  refine wF [(Value.agg #[(eI x), (eI y), (eI z)]), (ptr b11 0), (Value.bool false), (ptr b11 0), (eI x), (Value.bool true), (Value.bool true), (ptr b11 0), (eI x), (Value.bool false), (Value.bool false), (Value.bool false), undef, undef, undef, (Value.bool false), (Value.bool false), undef, undef, undef, (Value.bool false), (Value.bool false), undef, undef, undef, (Value.bool false), (Value.bool false), undef, undef, undef, undef] ?_
  refine wpL.off rfl rfl rfl (nb rfl) rfl ?_
  refine wpL.off rfl rfl rfl (nb rfl) rfl ?_
  refine wF [(Value.agg #[(eI x), (eI y), (eI z)]), (ptr b11 0), (Value.bool false), (ptr b11 0), (eI x), (Value.bool true), (Value.bool true), (ptr b11 0), (eI x), (Value.bool false), (Value.bool false), (Value.bool false), undef, undef, undef, (Value.bool false), (Value.bool false), undef, undef, undef, (Value.bool false), (Value.bool false), undef, undef, undef, (Value.bool false), (Value.bool false), undef, undef, undef, undef] ?_
  refine wpL.off rfl rfl rfl (nb rfl) rfl ?_
  refine wI (d_pick (b := false) (v := (Value.bool false)) rfl rfl) ?_
  refine wI (d_assign rfl) ?_
  refine wF [(Value.agg #[(eI x), (eI y), (eI z)]), (ptr b11 0), (Value.bool false), (ptr b11 0), (eI x), (Value.bool true), (Value.bool true), (ptr b11 0), (eI x), (Value.bool false), (Value.bool false), (Value.bool false), undef, undef, undef, (Value.bool false), (Value.bool false), undef, undef, undef, (Value.bool false), (Value.bool false), undef, undef, undef, (Value.bool false), (Value.bool false), undef, undef, undef, (Value.bool false)] ?_
  refine wpL.done ?_
  refine then_n ?_
  refine forget (fun zf21 => ([(zf21 0), (zf21 1), (Value.bool false)] ++ (zs zf21 3 28))) (by kernel_rfl) (fun zf21 => ?_)
  refine wpIn_ret ?_
  refine leave0 (v := (Value.bool false)) (res1 Try.results51 rfl) ?_
  exact ⟨congrArg Value.bool (fits_no (by omega)), oW⟩
 refine plain ?_
 refine wI (d_fieldAddr (j := 0) Try.underlying25 rfl s_ti3 (by decide) rfl rfl) ?_
 refine wI (d_load (v := (eI x)) ⟨_, Try.underlying3, rfl⟩ rfl a14 rfl) ?_
 refine wI (d_geq (k := .i64) (m := x) (n := 6) rfl rfl (decide_eq_false k0)) ?_
 refine wF ([(Value.agg #[(eI x), (eI y), (eI z)]), (ptr b11 0), (Value.bool false), (ptr b11 0), (eI x), (Value.bool false)] ++ (us 25)) ?_
 refine wI (d_move rfl) ?_
 refine wpL.off rfl rfl rfl (nb rfl) rfl ?_
 refine wF ([(Value.agg #[(eI x), (eI y), (eI z)]), (ptr b11 0), (Value.bool false), (ptr b11 0), (eI x), (Value.bool false), (Value.bool false)] ++ (us 24)) ?_
 refine wpL.off rfl rfl rfl (nb rfl) rfl ?_
 refine wpL.off rfl rfl rfl (nb rfl) rfl ?_
 refine wI (d_pick (b := false) (v := (Value.bool false)) rfl rfl) ?_
 refine wI (d_move rfl) ?_
 refine wF ([(Value.agg #[(eI x), (eI y), (eI z)]), (ptr b11 0), (Value.bool false), (ptr b11 0), (eI x), (Value.bool false), (Value.bool false), undef, undef, undef, (Value.bool false), (Value.bool false)] ++ (us 19)) ?_
 refine wpL.off rfl rfl rfl (nb rfl) rfl ?_
 refine wpL.off rfl rfl rfl (nb rfl) rfl ?_
 refine wF ([(Value.agg #[(eI x), (eI y), (eI z)]), (ptr b11 0), (Value.bool false), (ptr b11 0), (eI x), (Value.bool false), (Value.bool false), undef, undef, undef, (Value.bool false), (Value.bool false)] ++ (us 19)) ?_
 refine wpL.off rfl rfl rfl (nb rfl) rfl ?_
 refine wI (d_pick (b := false) (v := (Value.bool false)) rfl rfl) ?_
 refine wI (d_move rfl) ?_
 refine wF ([(Value.agg #[(eI x), (eI y), (eI z)]), (ptr b11 0), (Value.bool false), (ptr b11 0), (eI x), (Value.bool false), (Value.bool false), undef, undef, undef, (Value.bool false), (Value.bool false), undef, undef, undef, (Value.bool false), (Value.bool false)] ++ (us 14)) ?_
 refine wpL.off rfl rfl rfl (nb rfl) rfl ?_
 refine wpL.off rfl rfl rfl (nb rfl) rfl ?_
 refine wpL.off rfl rfl rfl (nb rfl) rfl ?_
 refine wI (d_pick (b := false) (v := (Value.bool false)) rfl rfl) ?_
 refine wF ([(Value.agg #[(eI x), (eI y), (eI z)]), (ptr b11 0), (Value.bool false), (ptr b11 0), (eI x), (Value.bool false), (Value.bool false), undef, undef, undef, (Value.bool false), (Value.bool false), undef, undef, undef, (Value.bool false), (Value.bool false), undef, undef, undef, (Value.bool false)] ++ (us 10)) ?_
 refine wI (d_move rfl) ?_
 refine wpL.off rfl rfl rfl (nb rfl) rfl ?_
 refine wF ([(Value.agg #[(eI x), (eI y), (eI z)]), (ptr b11 0), (Value.bool false), (ptr b11 0), (eI x), (Value.bool false), (Value.bool false), undef, undef, undef, (Value.bool false), (Value.bool false), undef, undef, undef, (Value.bool false), (Value.bool false), undef, undef, undef, (Value.bool false), (Value.bool false)] ++ (us 9)) ?_
 refine wpL.off rfl rfl rfl (nb rfl) rfl ?_
 refine wpL.off rfl rfl rfl (nb rfl) rfl ?_
 refine wI (d_pick (b := false) (v := (Value.bool false)) rfl rfl) ?_
 refine wI (d_move rfl) ?_
 refine wF [(Value.agg #[(eI x), (eI y), (eI z)]), (ptr b11 0), (Value.bool false), (ptr b11 0), (eI x), (Value.bool false), (Value.bool false), undef, undef, undef, (Value.bool false), (Value.bool false), undef, undef, undef, (Value.bool false), (Value.bool false), undef, undef, undef, (Value.bool false), (Value.bool false), undef, undef, undef, (Value.bool false), (Value.bool false), undef, undef, undef, undef] ?_
 refine wpL.off rfl rfl rfl (nb rfl) rfl ?_
 refine wpL.off rfl rfl rfl (nb rfl) rfl ?_
 refine wF [(Value.agg #[(eI x), (eI y), (eI z)]), (ptr b11 0), (Value.bool false), (ptr b11 0), (eI x), (Value.bool false), (Value.bool false), undef, undef, undef, (Value.bool false), (Value.bool false), undef, undef, undef, (Value.bool false), (Value.bool false), undef, undef, undef, (Value.bool false), (Value.bool false), undef, undef, undef, (Value.bool false), (Value.bool false), undef, undef, undef, undef] ?_
 refine wpL.off rfl rfl rfl (nb rfl) rfl ?_
 refine wI (d_pick (b := false) (v := (Value.bool false)) rfl rfl) ?_
 refine wI (d_assign rfl) ?_
 refine wF [(Value.agg #[(eI x), (eI y), (eI z)]), (ptr b11 0), (Value.bool false), (ptr b11 0), (eI x), (Value.bool false), (Value.bool false), undef, undef, undef, (Value.bool false), (Value.bool false), undef, undef, undef, (Value.bool false), (Value.bool false), undef, undef, undef, (Value.bool false), (Value.bool false), undef, undef, undef, (Value.bool false), (Value.bool false), undef, undef, undef, (Value.bool false)] ?_
 refine wpL.done ?_
 refine then_n ?_
 refine forget (fun zf22 => ([(zf22 0), (zf22 1), (Value.bool false)] ++ (zs zf22 3 28))) (by kernel_rfl) (fun zf22 => ?_)
 refine wpIn_ret ?_
 refine leave0 (v := (Value.bool false)) (res1 Try.results51 rfl) ?_
 exact ⟨congrArg Value.bool (fits_no (by omega)), oW⟩

set_option maxRecDepth 20000 in
set_option maxHeartbeats 1000000 in
theorem gCheck_ok (x y z : Int) (W : World) :
    CW Try.prog 33 #[(Value.agg #[(eI x), (eI y), (eI z)])] W (Rt (RIs (eN (if fitsI x y z = true then 0 else 1)) W)) := by
 have oW : Only No W W := Only.refl _ _
 refine enter (al := [(Value.agg #[(eI x), (eI y), (eI z)])]) (k := 5) (l := ([(Value.agg #[(eI x), (eI y), (eI z)])] ++ (us 5))) Try.func33 rfl Try.ntmps33 rfl rfl ?_
 refine wpIn_seq ?_
 refine plain ?_
 refine wO (d_box rfl rfl) ?_
 rintro _ w12 ⟨b11, rfl, g13, a14, o15⟩
 have g_oW_b11 : W.heap.size ≤ b11 := Nat.le_trans oW.size g13
 replace oW := oW.tail0 o15
 refine wI (d_assign rfl) ?_
 refine wF [(Value.agg #[(eI x), (eI y), (eI z)]), (ptr b11 0), (eN 0), undef, undef, undef] ?_
 refine wpL.done ?_
 refine then_n ?_
 refine wpIn_seq ?_
 refine wpIn_seq ?_
 by_cases k0 : fitsI x y z = true
 ·
  refine plain ?_
  refine wI (d_loadAg (vs := [(eI x), (eI y), (eI z)]) ⟨_, Try.underlying25, rfl⟩ s_ti25 rfl a14 rfl rfl) ?_
  refine wO (d_call (xl := [.tmp 3]) (al := [(Value.agg #[(eI x), (eI y), (eI z)])]) Try.func38 (by kernel_rfl) rfl rfl rfl (cw_is (gfitsI_ok x y z _) (congrArg Value.bool (show fitsI x y z = true from k0)))) ?_
  rintro _ w16 ⟨rfl, o17⟩
  replace a14 := a14.step0 o17
  replace oW := oW.tail0 o17
  refine wI (d_not rfl rfl) ?_
  refine wF [(Value.agg #[(eI x), (eI y), (eI z)]), (ptr b11 0), (eN 0), (Value.agg #[(eI x), (eI y), (eI z)]), (Value.bool true), (Value.bool false)] ?_
  refine wpL.done ?_
  refine then_n ?_
  refine cond_f rfl ?_
  refine wpIn_skip ?_
  refine then_n ?_
  refine wpIn_seq ?_
  refine plain ?_
  refine wI (d_assign rfl) ?_
  refine wF [(Value.agg #[(eI x), (eI y), (eI z)]), (ptr b11 0), (eN 0), (Value.agg #[(eI x), (eI y), (eI z)]), (Value.bool true), (Value.bool false)] ?_
  refine wpL.done ?_
  refine then_n ?_
  refine wpIn_ret ?_
  refine leave0 (v := (eN 0)) (res1 Try.results33 rfl) ?_
  exact ⟨congrArg eN (by simp [k0]), oW⟩
 refine plain ?_
 refine wI (d_loadAg (vs := [(eI x), (eI y), (eI z)]) ⟨_, Try.underlying25, rfl⟩ s_ti25 rfl a14 rfl rfl) ?_
 refine wO (d_call (xl := [.tmp 3]) (al := [(Value.agg #[(eI x), (eI y), (eI z)])]) Try.func38 (by kernel_rfl) rfl rfl rfl (cw_is (gfitsI_ok x y z _) (congrArg Value.bool (show fitsI x y z = false from (Bool.eq_false_iff.2 k0))))) ?_
 rintro _ w18 ⟨rfl, o19⟩
 replace a14 := a14.step0 o19
 replace oW := oW.tail0 o19
 refine wI (d_not rfl rfl) ?_
 refine wF [(Value.agg #[(eI x), (eI y), (eI z)]), (ptr b11 0), (eN 0), (Value.agg #[(eI x), (eI y), (eI z)]), (Value.bool false), (Value.bool true)] ?_
 refine wpL.done ?_
 refine then_n ?_
 refine cond_t rfl ?_
 refine wpIn_seq ?_
 refine plain ?_
 refine wI (d_assign rfl) ?_
 refine wF [(Value.agg #[(eI x), (eI y), (eI z)]), (ptr b11 0), (eN 1), (Value.agg #[(eI x), (eI y), (eI z)]), (Value.bool false), (Value.bool true)] ?_
 refine wpL.done ?_
 refine then_n ?_
 refine wpIn_ret ?_
 refine then_r ?_
 refine leave0 (v := (eN 1)) (res1 Try.results33 rfl) ?_
 exact ⟨congrArg eN (by simp [k0]), oW⟩

set_option maxRecDepth 20000 in
set_option maxHeartbeats 1000000 in
theorem ref9Check_ok (x y z : Int) (W : World) :
    CW Try.prog 34 #[(Value.agg #[(eI x), (eI y), (eI z)])] W (Rt (RIs (eN (if fitsI x y z = true then 0 else 1)) W)) := by
 have oW : Only No W W := Only.refl _ _
 refine enter (al := [(Value.agg #[(eI x), (eI y), (eI z)])]) (k := 4) (l := [(Value.agg #[(eI x), (eI y), (eI z)]), undef, undef, undef, undef]) Try.func34 rfl Try.ntmps34 rfl rfl ?_
 refine wpIn_seq ?_
 refine plain ?_
 refine wO (d_box rfl rfl) ?_
 rintro _ w12 ⟨b11, rfl, g13, a14, o15⟩
 have g_oW_b11 : W.heap.size ≤ b11 := Nat.le_trans oW.size g13
 replace oW := oW.tail0 o15
 refine wI (d_assign rfl) ?_
 refine wF [(Value.agg #[(eI x), (eI y), (eI z)]), (ptr b11 0), (eN 0), undef, undef] ?_
 refine wpL.done ?_
 refine then_n ?_
 refine wpIn_seq ?_
 refine wpIn_seq ?_
 by_cases k0 : fitsI x y z = true
 ·
  refine plain ?_
  refine wI (d_loadAg (vs := [(eI x), (eI y), (eI z)]) ⟨_, Try.underlying25, rfl⟩ s_ti25 rfl a14 rfl rfl) ?_
  refine wO (d_call (xl := [.tmp 3]) (al := [(Value.agg #[(eI x), (eI y), (eI z)])]) Try.func51 (by kernel_rfl) rfl rfl rfl (cw_is (ref7CheckI_ok x y z _) (congrArg Value.bool (show fitsI x y z = true from k0)))) ?_
  rintro _ w16 ⟨rfl, o17⟩
  replace a14 := a14.step0 o17
  replace oW := oW.tail0 o17
  refine wF [(Value.agg #[(eI x), (eI y), (eI z)]), (ptr b11 0), (eN 0), (Value.agg #[(eI x), (eI y), (eI z)]), (Value.bool true)] ?_
  refine wpL.done ?_
  refine then_n ?_
  refine cond_t rfl ?_
  refine wpIn_seq ?_
  refine plain ?_
  refine wI (d_assign rfl) ?_
  refine wF [(Value.agg #[(eI x), (eI y), (eI z)]), (ptr b11 0), (eN 0), (Value.agg #[(eI x), (eI y), (eI z)]), (Value.bool true)] ?_
  refine wpL.done ?_
  refine then_n ?_
  refine wpIn_ret ?_
  refine then_r ?_
  refine leave0 (v := (eN 0)) (res1 Try.results34 rfl) ?_
  exact ⟨congrArg eN (by simp [k0]), oW⟩
 refine plain ?_
 refine wI (d_loadAg (vs := [(eI x), (eI y), (eI z)]) ⟨_, Try.underlying25, rfl⟩ s_ti25 rfl a14 rfl rfl) ?_
 refine wO (d_call (xl := [.tmp 3]) (al := [(Value.agg #[(eI x), (eI y), (eI z)])]) Try.func51 (by kernel_rfl) rfl rfl rfl (cw_is (ref7CheckI_ok x y z _) (congrArg Value.bool (show fitsI x y z = false from (Bool.eq_false_iff.2 k0))))) ?_
 rintro _ w18 ⟨rfl, o19⟩
 replace a14 := a14.step0 o19
 replace oW := oW.tail0 o19
 refine wF [(Value.agg #[(eI x), (eI y), (eI z)]), (ptr b11 0), (eN 0), (Value.agg #[(eI x), (eI y), (eI z)]), (Value.bool false)] ?_
 refine wpL.done ?_
 refine then_n ?_
 refine cond_f rfl ?_
 refine wpIn_skip ?_
 refine then_n ?_
 refine wpIn_seq ?_
 refine plain ?_
 refine wI (d_assign rfl) ?_
 refine wF [(Value.agg #[(eI x), (eI y), (eI z)]), (ptr b11 0), (eN 1), (Value.agg #[(eI x), (eI y), (eI z)]), (Value.bool false)] ?_
 refine wpL.done ?_
 refine then_n ?_
 refine wpIn_ret ?_
 refine leave0 (v := (eN 1)) (res1 Try.results34 rfl) ?_
 exact ⟨congrArg eN (by simp [k0]), oW⟩

set_option maxRecDepth 20000 in
set_option maxHeartbeats 1000000 in
theorem gSectors_ok (x y z s : Int) (W : World) :
    CW Try.prog 17 #[(Value.agg #[(eI x), (eI y), (eI z)]), (eI s)] W (Rt (RIs (eI (gsec x y z s)) W)) := by
 have oW : Only No W W := Only.refl _ _
 refine enter (al := [(Value.agg #[(eI x), (eI y), (eI z)]), (eI s)]) (k := 24) (l := ([(Value.agg #[(eI x), (eI y), (eI z)]), (eI s)] ++ (us 24))) Try.func17 rfl Try.ntmps17 rfl rfl ?_
 refine wpIn_seq ?_
 refine plain ?_
 refine wO (d_box rfl rfl) ?_
 rintro _ w12 ⟨b11, rfl, g13, a14, o15⟩
 have g_oW_b11 : W.heap.size ≤ b11 := Nat.le_trans oW.size g13
 replace oW := oW.tail0 o15
 refine wI (d_assign rfl) ?_
 refine wF ([(Value.agg #[(eI x), (eI y), (eI z)]), (eI s), (ptr b11 0), undef, (eN 0)] ++ (us 21)) ?_
 refine wpL.done ?_
 refine then_n ?_
 refine wpIn_seq ?_
 refine wpIn_seq ?_
 by_cases k0 : fitsI x y z = true
 ·
  by_cases k1 : 7 ≤ s
  ·
   by_cases k2 : s ≤ y
   ·
    have hf_ := fits_get k0
    obtain ⟨D, rfl⟩ := Int.eq_ofNat_of_zero_le (show 0 ≤ x by omega)
    refine wp_eq (l' := ([(Value.agg #[(eN D), (eI y), (eI z)]), (eI s), (ptr b11 0), undef, (eN 0)] ++ (us 21))) rfl ?_
    obtain ⟨B, rfl⟩ := Int.eq_ofNat_of_zero_le (show 0 ≤ y by omega)
    refine wp_eq (l' := ([(Value.agg #[(eN D), (eN B), (eI z)]), (eI s), (ptr b11 0), undef, (eN 0)] ++ (us 21))) rfl ?_
    obtain ⟨Q, rfl⟩ := Int.eq_ofNat_of_zero_le (show 0 ≤ z by omega)
    refine wp_eq (l' := ([(Value.agg #[(eN D), (eN B), (eN Q)]), (eI s), (ptr b11 0), undef, (eN 0)] ++ (us 21))) rfl ?_
    obtain ⟨S, rfl⟩ := Int.eq_ofNat_of_zero_le (show 0 ≤ s by omega)
    refine wp_eq (l' := ([(Value.agg #[(eN D), (eN B), (eN Q)]), (eN S), (ptr b11 0), undef, (eN 0)] ++ (us 21))) rfl ?_
    refine plain ?_
    refine wI (d_loadAg (vs := [(eN D), (eN B), (eN Q)]) ⟨_, Try.underlying25, rfl⟩ s_ti25 rfl a14 rfl rfl) ?_
    refine wO (d_call (xl := [.tmp 5]) (al := [(Value.agg #[(eN D), (eN B), (eN Q)])]) Try.func38 (by kernel_rfl) rfl rfl rfl (cw_is (gfitsI_ok ((D : Nat) : Int) ((B : Nat) : Int) ((Q : Nat) : Int) _) (congrArg Value.bool (show fitsI ((D : Nat) : Int) ((B : Nat) : Int) ((Q : Nat) : Int) = true from k0)))) ?_
    rintro _ w16 ⟨rfl, o17⟩
    replace a14 := a14.step0 o17
    replace oW := oW.tail0 o17
    refine wI (d_not rfl rfl) ?_
    refine wF ([(Value.agg #[(eN D), (eN B), (eN Q)]), (eN S), (ptr b11 0), undef, (eN 0), (Value.agg #[(eN D), (eN B), (eN Q)]), (Value.bool true), (Value.bool false)] ++ (us 18)) ?_
    refine wI (d_move rfl) ?_
    refine wpL.onis rfl rfl rfl (nb rfl) rfl (d_move rfl) ?_
    refine wpL.onis rfl rfl rfl (nb rfl) rfl (d_fieldAddr (j := 1) Try.underlying25 rfl s_ti3 (by decide) rfl rfl) ?_
    refine wF ([(Value.agg #[(eN D), (eN B), (eN Q)]), (eN S), (ptr b11 0), undef, (eN 0), (Value.agg #[(eN D), (eN B), (eN Q)]), (Value.bool true), (Value.bool false), (Value.bool false), (eN S), (ptr b11 1)] ++ (us 15)) ?_
    refine wpL.onis rfl rfl rfl (nb rfl) rfl (d_load (v := (eN B)) ⟨_, Try.underlying3, rfl⟩ rfl a14 rfl) ?_
    refine wpL.on rfl rfl rfl (nb rfl) rfl (d_call (xl := [.tmp 9, .const (.int .i64 7), .tmp 11]) (al := [(eN S), (eN 7), (eN B)]) Try.func39 (by kernel_rfl) rfl rfl rfl (cw_is (gwithin_ok ((S : Nat) : Int) 7 ((B : Nat) : Int) _) (congrArg Value.bool (decide_eq_true ⟨k1, k2⟩)))) ?_
    rintro _ w18 ⟨rfl, o19⟩
    replace a14 := a14.step0 o19
    replace oW := oW.tail0 o19
    refine wpL.onis rfl rfl rfl (nb rfl) rfl (d_not rfl rfl) ?_
    refine wF ([(Value.agg #[(eN D), (eN B), (eN Q)]), (eN S), (ptr b11 0), undef, (eN 0), (Value.agg #[(eN D), (eN B), (eN Q)]), (Value.bool true), (Value.bool false), (Value.bool false), (eN S), (ptr b11 1), (eN B), (Value.bool true), (Value.bool false)] ++ (us 12)) ?_
    refine wI (d_pick (b := false) (v := (Value.bool false)) rfl rfl) ?_
    refine wF ([(Value.agg #[(eN D), (eN B), (eN Q)]), (eN S), (ptr b11 0), undef, (eN 0), (Value.agg #[(eN D), (eN B), (eN Q)]), (Value.bool true), (Value.bool false), (Value.bool false), (eN S), (ptr b11 1), (eN B), (Value.bool true), (Value.bool false), (Value.bool false)] ++ (us 11)) ?_
    refine wpL.done ?_
    refine then_n ?_
    refine forget (fun zf20 => ([(zf20 0), (eN S), (ptr b11 0)] ++ (zs zf20 3 11 ++ [(Value.bool false)] ++ (zs zf20 15 11)))) (by kernel_rfl) (fun zf20 => ?_)
    refine cond_f rfl ?_
    refine wpIn_skip ?_
    refine then_n ?_
    refine wpIn_seq ?_
    have hs_ := sec_le k0 (show S ≤ B by omega)
    have hd_ := Nat.div_le_self ((S - 4) * (Q - 2) * (D - 2)) 4
    refine plain ?_
    refine wI (d_move rfl) ?_
    refine wI (n_sub (a := S) (b := 4) rfl rfl (by omega) (by omega)) ?_
    refine wI (d_fieldAddr (j := 2) Try.underlying25 rfl s_ti3 (by decide) rfl rfl) ?_
    refine wF ([(zf20 0), (eN S), (ptr b11 0)] ++ (zs zf20 3 11 ++ [(Value.bool false), (eN S), (eN (S - 4)), (ptr b11 2)] ++ (zs zf20 18 8))) ?_
    refine wI (d_load (v := (eN Q)) ⟨_, Try.underlying3, rfl⟩ rfl a14 rfl) ?_
    refine wI (n_sub (a := Q) (b := 2) rfl rfl (by omega) (by omega)) ?_
    refine wI (n_mul (a := (S - 4)) (b := (Q - 2)) rfl rfl (by omega)) ?_
    refine wF ([(zf20 0), (eN S), (ptr b11 0)] ++ (zs zf20 3 11 ++ [(Value.bool false), (eN S), (eN (S - 4)), (ptr b11 2), (eN Q), (eN (Q - 2)), (eN ((S - 4) * (Q - 2)))] ++ (zs zf20 21 5))) ?_
    refine wI (d_fieldAddr (j := 0) Try.underlying25 rfl s_ti3 (by decide) rfl rfl) ?_
    refine wI (d_load (v := (eN D)) ⟨_, Try.underlying3, rfl⟩ rfl a14 rfl) ?_
    refine wI (n_sub (a := D) (b := 2) rfl rfl (by omega) (by omega)) ?_
    refine wF ([(zf20 0), (eN S), (ptr b11 0)] ++ (zs zf20 3 11 ++ [(Value.bool false), (eN S), (eN (S - 4)), (ptr b11 2), (eN Q), (eN (Q - 2)), (eN ((S - 4) * (Q - 2))), (ptr b11 0), (eN D), (eN (D - 2)), (zf20 24), (zf20 25)])) ?_
    refine wI (n_mul (a := ((S - 4) * (Q - 2))) (b := (D - 2)) rfl rfl (by omega)) ?_
    refine wI (n_quo (a := (((S - 4) * (Q - 2)) * (D - 2))) (b := 4) rfl rfl (by decide) (by omega)) ?_
    refine wI (d_assign rfl) ?_
    refine wF ([(zf20 0), (eN S), (ptr b11 0), (zf20 3), (eN ((((S - 4) * (Q - 2)) * (D - 2)) / 4))] ++ (zs zf20 5 9 ++ [(Value.bool false), (eN S), (eN (S - 4)), (ptr b11 2), (eN Q), (eN (Q - 2)), (eN ((S - 4) * (Q - 2))), (ptr b11 0), (eN D), (eN (D - 2)), (eN (((S - 4) * (Q - 2)) * (D - 2))), (eN ((((S - 4) * (Q - 2)) * (D - 2)) / 4))])) ?_
    refine wpL.done ?_
    refine then_n ?_
    refine forget (fun zf21 => ([(zf21 0), (zf21 1), (zf21 2), (zf21 3), (eN ((((S - 4) * (Q - 2)) * (D - 2)) / 4))] ++ (zs zf21 5 21))) (by kernel_rfl) (fun zf21 => ?_)
    refine wpIn_ret ?_
    refine leave0 (v := (eN ((((S - 4) * (Q - 2)) * (D - 2)) / 4))) (res1 Try.results17 rfl) ?_
    exact ⟨congrArg eI (gsec_yes k0 (by omega) (by omega)).symm, oW⟩
   refine plain ?_
   refine wI (d_loadAg (vs := [(eI x), (eI y), (eI z)]) ⟨_, Try.underlying25, rfl⟩ s_ti25 rfl a14 rfl rfl) ?_
   refine wO (d_call (xl := [.tmp 5]) (al := [(Value.agg #[(eI x), (eI y), (eI z)])]) Try.func38 (by kernel_rfl) rfl rfl rfl (cw_is (gfitsI_ok x y z _) (congrArg Value.bool (show fitsI x y z = true from k0)))) ?_
   rintro _ w22 ⟨rfl, o23⟩
   replace a14 := a14.step0 o23
   replace oW := oW.tail0 o23
   refine wI (d_not rfl rfl) ?_
   refine wF ([(Value.agg #[(eI x), (eI y), (eI z)]), (eI s), (ptr b11 0), undef, (eN 0), (Value.agg #[(eI x), (eI y), (eI z)]), (Value.bool true), (Value.bool false)] ++ (us 18)) ?_
   refine wI (d_move rfl) ?_
   refine wpL.onis rfl rfl rfl (nb rfl) rfl (d_move rfl) ?_
   refine wpL.onis rfl rfl rfl (nb rfl) rfl (d_fieldAddr (j := 1) Try.underlying25 rfl s_ti3 (by decide) rfl rfl) ?_
   refine wF ([(Value.agg #[(eI x), (eI y), (eI z)]), (eI s), (ptr b11 0), undef, (eN 0), (Value.agg #[(eI x), (eI y), (eI z)]), (Value.bool true), (Value.bool false), (Value.bool false), (eI s), (ptr b11 1)] ++ (us 15)) ?_
   refine wpL.onis rfl rfl rfl (nb rfl) rfl (d_load (v := (eI y)) ⟨_, Try.underlying3, rfl⟩ rfl a14 rfl) ?_
   refine wpL.on rfl rfl rfl (nb rfl) rfl (d_call (xl := [.tmp 9, .const (.int .i64 7), .tmp 11]) (al := [(eI s), (eN 7), (eI y)]) Try.func39 (by kernel_rfl) rfl rfl rfl (cw_is (gwithin_ok s 7 y _) (congrArg Value.bool (decide_eq_false (fun h_ => k2 h_.2))))) ?_
   rintro _ w24 ⟨rfl, o25⟩
   replace a14 := a14.step0 o25
   replace oW := oW.tail0 o25
   refine wpL.onis rfl rfl rfl (nb rfl) rfl (d_not rfl rfl) ?_
   refine wF ([(Value.agg #[(eI x), (eI y), (eI z)]), (eI s), (ptr b11 0), undef, (eN 0), (Value.agg #[(eI x), (eI y), (eI z)]), (Value.bool true), (Value.bool false), (Value.bool false), (eI s), (ptr b11 1), (eI y), (Value.bool false), (Value.bool true)] ++ (us 12)) ?_
   refine wI (d_pick (b := false) (v := (Value.bool true)) rfl rfl) ?_
   refine wF ([(Value.agg #[(eI x), (eI y), (eI z)]), (eI s), (ptr b11 0), undef, (eN 0), (Value.agg #[(eI x), (eI y), (eI z)]), (Value.bool true), (Value.bool false), (Value.bool false), (eI s), (ptr b11 1), (eI y), (Value.bool false), (Value.bool true), (Value.bool true)] ++ (us 11)) ?_
   refine wpL.done ?_
   refine then_n ?_
   refine forget (fun zf26 => ([(zf26 0), (eI s), (ptr b11 0)] ++ (zs zf26 3 11 ++ [(Value.bool true)] ++ (zs zf26 15 11)))) (by kernel_rfl) (fun zf26 => ?_)
   refine cond_t rfl ?_
   refine wpIn_seq ?_
   refine plain ?_
   refine wI (d_assign rfl) ?_
   refine wF ([(zf26 0), (eI s), (ptr b11 0), (zf26 3), (eN 0)] ++ (zs zf26 5 9 ++ [(Value.bool true)] ++ (zs zf26 15 11))) ?_
   refine wpL.done ?_
   refine then_n ?_
   refine wpIn_ret ?_
   refine then_r ?_
   refine leave0 (v := (eN 0)) (res1 Try.results17 rfl) ?_
   exact ⟨congrArg eI (gsec_no (by simp only [k0]; omega)).symm, oW⟩
  refine plain ?_
  refine wI (d_loadAg (vs := [(eI x), (eI y), (eI z)]) ⟨_, Try.underlying25, rfl⟩ s_ti25 rfl a14 rfl rfl) ?_
  refine wO (d_call (xl := [.tmp 5]) (al := [(Value.agg #[(eI x), (eI y), (eI z)])]) Try.func38 (by kernel_rfl) rfl rfl rfl (cw_is (gfitsI_ok x y z _) (congrArg Value.bool (show fitsI x y z = true from k0)))) ?_
  rintro _ w27 ⟨rfl, o28⟩
  replace a14 := a14.step0 o28
  replace oW := oW.tail0 o28
  refine wI (d_not rfl rfl) ?_
  refine wF ([(Value.agg #[(eI x), (eI y), (eI z)]), (eI s), (ptr b11 0), undef, (eN 0), (Value.agg #[(eI x), (eI y), (eI z)]), (Value.bool true), (Value.bool false)] ++ (us 18)) ?_
  refine wI (d_move rfl) ?_
  refine wpL.onis rfl rfl rfl (nb rfl) rfl (d_move rfl) ?_
  refine wpL.onis rfl rfl rfl (nb rfl) rfl (d_fieldAddr (j := 1) Try.underlying25 rfl s_ti3 (by decide) rfl rfl) ?_
  refine wF ([(Value.agg #[(eI x), (eI y), (eI z)]), (eI s), (ptr b11 0), undef, (eN 0), (Value.agg #[(eI x), (eI y), (eI z)]), (Value.bool true), (Value.bool false), (Value.bool false), (eI s), (ptr b11 1)] ++ (us 15)) ?_
  refine wpL.onis rfl rfl rfl (nb rfl) rfl (d_load (v := (eI y)) ⟨_, Try.underlying3, rfl⟩ rfl a14 rfl) ?_
  refine wpL.on rfl rfl rfl (nb rfl) rfl (d_call (xl := [.tmp 9, .const (.int .i64 7), .tmp 11]) (al := [(eI s), (eN 7), (eI y)]) Try.func39 (by kernel_rfl) rfl rfl rfl (cw_is (gwithin_ok s 7 y _) (congrArg Value.bool (decide_eq_false (fun h_ => k1 h_.1))))) ?_
  rintro _ w29 ⟨rfl, o30⟩
  replace a14 := a14.step0 o30
  replace oW := oW.tail0 o30
  refine wpL.onis rfl rfl rfl (nb rfl) rfl (d_not rfl rfl) ?_
  refine wF ([(Value.agg #[(eI x), (eI y), (eI z)]), (eI s), (ptr b11 0), undef, (eN 0), (Value.agg #[(eI x), (eI y), (eI z)]), (Value.bool true), (Value.bool false), (Value.bool false), (eI s), (ptr b11 1), (eI y), (Value.bool false), (Value.bool true)] ++ (us 12)) ?_
  refine wI (d_pick (b := false) (v := (Value.bool true)) rfl rfl) ?_
  refine wF ([(Value.agg #[(eI x), (eI y), (eI z)]), (eI s), (ptr b11 0), undef, (eN 0), (Value.agg #[(eI x), (eI y), (eI z)]), (Value.bool true), (Value.bool false), (Value.bool false), (eI s), (ptr b11 1), (eI y), (Value.bool false), (Value.bool true), (Value.bool true)] ++ (us 11)) ?_
  refine wpL.done ?_
  refine then_n ?_
  refine forget (fun zf31 => ([(zf31 0), (eI s), (ptr b11 0)] ++ (zs zf31 3 11 ++ [(Value.bool true)] ++ (zs zf31 15 11)))) (by kernel_rfl) (fun zf31 => ?_)
  refine cond_t rfl ?_
  refine wpIn_seq ?_
  refine plain ?_
  refine wI (d_assign rfl) ?_
  refine wF ([(zf31 0), (eI s), (ptr b11 0), (zf31 3), (eN 0)] ++ (zs zf31 5 9 ++ [(Value.bool true)] ++ (zs zf31 15 11))) ?_
  refine wpL.done ?_
  refine then_n ?_
  refine wpIn_ret ?_
  refine then_r ?_
  refine leave0 (v := (eN 0)) (res1 Try.results17 rfl) ?_
  exact ⟨congrArg eI (gsec_no (by simp only [k0]; omega)).symm, oW⟩
 refine plain ?_
 refine wI (d_loadAg (vs := [(eI x), (eI y), (eI z)]) ⟨_, Try.underlying25, rfl⟩ s_ti25 rfl a14 rfl rfl) ?_
 refine wO (d_call (xl := [.tmp 5]) (al := [(Value.agg #[(eI x), (eI y), (eI z)])]) Try.func38 (by kernel_rfl) rfl rfl rfl (cw_is (gfitsI_ok x y z _) (congrArg Value.bool (show fitsI x y z = false from (Bool.eq_false_iff.2 k0))))) ?_
 rintro _ w32 ⟨rfl, o33⟩
 replace a14 := a14.step0 o33
 replace oW := oW.tail0 o33
 refine wI (d_not rfl rfl) ?_
 refine wF ([(Value.agg #[(eI x), (eI y), (eI z)]), (eI s), (ptr b11 0), undef, (eN 0), (Value.agg #[(eI x), (eI y), (eI z)]), (Value.bool false), (Value.bool true)] ++ (us 18)) ?_
 refine wI (d_move rfl) ?_
 refine wpL.off rfl rfl rfl (nb rfl) rfl ?_
 refine wF ([(Value.agg #[(eI x), (eI y), (eI z)]), (eI s), (ptr b11 0), undef, (eN 0), (Value.agg #[(eI x), (eI y), (eI z)]), (Value.bool false), (Value.bool true), (Value.bool true)] ++ (us 17)) ?_
 refine wpL.off rfl rfl rfl (nb rfl) rfl ?_
 refine wpL.off rfl rfl rfl (nb rfl) rfl ?_
 refine wpL.off rfl rfl rfl (nb rfl) rfl ?_
 refine wF ([(Value.agg #[(eI x), (eI y), (eI z)]), (eI s), (ptr b11 0), undef, (eN 0), (Value.agg #[(eI x), (eI y), (eI z)]), (Value.bool false), (Value.bool true), (Value.bool true)] ++ (us 17)) ?_
 refine wpL.off rfl rfl rfl (nb rfl) rfl ?_
 refine wI (d_pick (b := true) (v := (Value.bool true)) rfl rfl) ?_
 refine wF ([(Value.agg #[(eI x), (eI y), (eI z)]), (eI s), (ptr b11 0), undef, (eN 0), (Value.agg #[(eI x), (eI y), (eI z)]), (Value.bool false), (Value.bool true), (Value.bool true)] ++ (us 5 ++ [(Value.bool true)] ++ (us 11))) ?_
 refine wpL.done ?_
 refine then_n ?_
 refine cond_t rfl ?_
 refine wpIn_seq ?_
 refine plain ?_
 refine wI (d_assign rfl) ?_
 refine wF ([(Value.agg #[(eI x), (eI y), (eI z)]), (eI s), (ptr b11 0), undef, (eN 0), (Value.agg #[(eI x), (eI y), (eI z)]), (Value.bool false), (Value.bool true), (Value.bool true)] ++ (us 5 ++ [(Value.bool true)] ++ (us 11))) ?_
 refine wpL.done ?_
 refine then_n ?_
 refine forget (fun zf34 => ([(zf34 0), (zf34 1), (zf34 2), (zf34 3), (eN 0)] ++ (zs zf34 5 21))) (by kernel_rfl) (fun zf34 => ?_)
 refine wpIn_ret ?_
 refine then_r ?_
 refine leave0 (v := (eN 0)) (res1 Try.results17 rfl) ?_
 exact ⟨congrArg eI (gsec_no (fun h_ => k0 h_.1)).symm, oW⟩

set_option maxRecDepth 20000 in
set_option maxHeartbeats 1000000 in
theorem ref9Sectors_ok (x y z s : Int) (W : World) :
    CW Try.prog 37 #[(Value.agg #[(eI x), (eI y), (eI z)]), (eI s)] W (Rt (RIs (eI (gsec x y z s)) W)) := by
 have oW : Only No W W := Only.refl _ _
 refine enter (al := [(Value.agg #[(eI x), (eI y), (eI z)]), (eI s)]) (k := 27) (l := ([(Value.agg #[(eI x), (eI y), (eI z)]), (eI s)] ++ (us 27))) Try.func37 rfl Try.ntmps37 rfl rfl ?_
 refine wpIn_seq ?_
 refine plain ?_
 refine wO (d_box rfl rfl) ?_
 rintro _ w12 ⟨b11, rfl, g13, a14, o15⟩
 have g_oW_b11 : W.heap.size ≤ b11 := Nat.le_trans oW.size g13
 replace oW := oW.tail0 o15
 refine wI (d_assign rfl) ?_
 refine wF ([(Value.agg #[(eI x), (eI y), (eI z)]), (eI s), (ptr b11 0), undef, (eN 0)] ++ (us 24)) ?_
 refine wpL.done ?_
 refine then_n ?_
 refine wpIn_seq ?_
 refine wpIn_seq ?_
 by_cases k0 : fitsI x y z = true
 ·
  by_cases k1 : 7 ≤ s
  ·
   by_cases k2 : s ≤ y
   ·
    have hf_ := fits_get k0
    obtain ⟨D, rfl⟩ := Int.eq_ofNat_of_zero_le (show 0 ≤ x by omega)
    refine wp_eq (l' := ([(Value.agg #[(eN D), (eI y), (eI z)]), (eI s), (ptr b11 0), undef, (eN 0)] ++ (us 24))) rfl ?_
    obtain ⟨B, rfl⟩ := Int.eq_ofNat_of_zero_le (show 0 ≤ y by omega)
    refine wp_eq (l' := ([(Value.agg #[(eN D), (eN B), (eI z)]), (eI s), (ptr b11 0), undef, (eN 0)] ++ (us 24))) rfl ?_
    obtain ⟨Q, rfl⟩ := Int.eq_ofNat_of_zero_le (show 0 ≤ z by omega)
    refine wp_eq (l' := ([(Value.agg #[(eN D), (eN B), (eN Q)]), (eI s), (ptr b11 0), undef, (eN 0)] ++ (us 24))) rfl ?_
    obtain ⟨S, rfl⟩ := Int.eq_ofNat_of_zero_le (show 0 ≤ s by omega)
    refine wp_eq (l' := ([(Value.agg #[(eN D), (eN B), (eN Q)]), (eN S), (ptr b11 0), undef, (eN 0)] ++ (us 24))) rfl ?_
    refine plain ?_
    refine wI (d_loadAg (vs := [(eN D), (eN B), (eN Q)]) ⟨_, Try.underlying25, rfl⟩ s_ti25 rfl a14 rfl rfl) ?_
    refine wO (d_call (xl := [.tmp 5]) (al := [(Value.agg #[(eN D), (eN B), (eN Q)])]) Try.func34 (by kernel_rfl) rfl rfl rfl (cw_is (v' := eN 0) (ref9Check_ok ((D : Nat) : Int) ((B : Nat) : Int) ((Q : Nat) : Int) _) (by rw [(show fitsI ((D : Nat) : Int) ((B : Nat) : Int) ((Q : Nat) : Int) = true from k0)] <;> rfl))) ?_
    rintro _ w16 ⟨rfl, o17⟩
    replace a14 := a14.step0 o17
    replace oW := oW.tail0 o17
    refine wI (n_neq (a := 0) (b := 0) rfl rfl (by rw [decide_eq_true rfl] <;> rfl)) ?_
    refine wF ([(Value.agg #[(eN D), (eN B), (eN Q)]), (eN S), (ptr b11 0), undef, (eN 0), (Value.agg #[(eN D), (eN B), (eN Q)]), (eN 0), (Value.bool false)] ++ (us 21)) ?_
    refine wI (d_move rfl) ?_
    refine wpL.onis rfl rfl rfl (nb rfl) rfl (d_move rfl) ?_
    refine wpL.onis rfl rfl rfl (nb rfl) rfl (n_lss (a := S) (b := 7) rfl rfl (decide_eq_false (by omega))) ?_
    refine wF ([(Value.agg #[(eN D), (eN B), (eN Q)]), (eN S), (ptr b11 0), undef, (eN 0), (Value.agg #[(eN D), (eN B), (eN Q)]), (eN 0), (Value.bool false), (Value.bool false), (eN S), (Value.bool false)] ++ (us 18)) ?_
    refine wI (d_pick (b := false) (v := (Value.bool false)) rfl rfl) ?_
    refine wI (d_move rfl) ?_
    refine wpL.onis rfl rfl rfl (nb rfl) rfl (d_move rfl) ?_
    refine wF ([(Value.agg #[(eN D), (eN B), (eN Q)]), (eN S), (ptr b11 0), undef, (eN 0), (Value.agg #[(eN D), (eN B), (eN Q)]), (eN 0), (Value.bool false), (Value.bool false), (eN S), (Value.bool false), (Value.bool false), (Value.bool false), (eN S)] ++ (us 15)) ?_
    refine wpL.onis rfl rfl rfl (nb rfl) rfl (d_fieldAddr (j := 1) Try.underlying25 rfl s_ti3 (by decide) rfl rfl) ?_
    refine wpL.onis rfl rfl rfl (nb rfl) rfl (d_load (v := (eN B)) ⟨_, Try.underlying3, rfl⟩ rfl a14 rfl) ?_
    refine wpL.onis rfl rfl rfl (nb rfl) rfl (n_gtr (a := S) (b := B) rfl rfl (decide_eq_false (by omega))) ?_
    refine wF ([(Value.agg #[(eN D), (eN B), (eN Q)]), (eN S), (ptr b11 0), undef, (eN 0), (Value.agg #[(eN D), (eN B), (eN Q)]), (eN 0), (Value.bool false), (Value.bool false), (eN S), (Value.bool false), (Value.bool false), (Value.bool false), (eN S), (ptr b11 1), (eN B), (Value.bool false)] ++ (us 12)) ?_
    refine wI (d_pick (b := false) (v := (Value.bool false)) rfl rfl) ?_
    refine wF ([(Value.agg #[(eN D), (eN B), (eN Q)]), (eN S), (ptr b11 0), undef, (eN 0), (Value.agg #[(eN D), (eN B), (eN Q)]), (eN 0), (Value.bool false), (Value.bool false), (eN S), (Value.bool false), (Value.bool false), (Value.bool false), (eN S), (ptr b11 1), (eN B), (Value.bool false), (Value.bool false)] ++ (us 11)) ?_
    refine wpL.done ?_
    refine then_n ?_
    refine forget (fun zf18 => ([(zf18 0), (eN S), (ptr b11 0)] ++ (zs zf18 3 14 ++ [(Value.bool false)] ++ (zs zf18 18 11)))) (by kernel_rfl) (fun zf18 => ?_)
    refine cond_f rfl ?_
    refine wpIn_skip ?_
    refine then_n ?_
    refine wpIn_seq ?_
    have hs_ := sec_le k0 (show S ≤ B by omega)
    have hd_ := Nat.div_le_self ((S - 4) * (Q - 2) * (D - 2)) 4
    refine plain ?_
    refine wI (d_move rfl) ?_
    refine wI (n_sub (a := S) (b := 4) rfl rfl (by omega) (by omega)) ?_
    refine wI (d_fieldAddr (j := 2) Try.underlying25 rfl s_ti3 (by decide) rfl rfl) ?_
    refine wF ([(zf18 0), (eN S), (ptr b11 0)] ++ (zs zf18 3 14 ++ [(Value.bool false), (eN S), (eN (S - 4)), (ptr b11 2)] ++ (zs zf18 21 8))) ?_
    refine wI (d_load (v := (eN Q)) ⟨_, Try.underlying3, rfl⟩ rfl a14 rfl) ?_
    refine wI (n_sub (a := Q) (b := 2) rfl rfl (by omega) (by omega)) ?_
    refine wI (n_mul (a := (S - 4)) (b := (Q - 2)) rfl rfl (by omega)) ?_
    refine wF ([(zf18 0), (eN S), (ptr b11 0)] ++ (zs zf18 3 14 ++ [(Value.bool false), (eN S), (eN (S - 4)), (ptr b11 2), (eN Q), (eN (Q - 2)), (eN ((S - 4) * (Q - 2)))] ++ (zs zf18 24 5))) ?_
    refine wI (d_fieldAddr (j := 0) Try.underlying25 rfl s_ti3 (by decide) rfl rfl) ?_
    refine wI (d_load (v := (eN D)) ⟨_, Try.underlying3, rfl⟩ rfl a14 rfl) ?_
    refine wI (n_sub (a := D) (b := 2) rfl rfl (by omega) (by omega)) ?_
    refine wF ([(zf18 0), (eN S), (ptr b11 0)] ++ (zs zf18 3 14 ++ [(Value.bool false), (eN S), (eN (S - 4)), (ptr b11 2), (eN Q), (eN (Q - 2)), (eN ((S - 4) * (Q - 2))), (ptr b11 0), (eN D), (eN (D - 2)), (zf18 27), (zf18 28)])) ?_
    refine wI (n_mul (a := ((S - 4) * (Q - 2))) (b := (D - 2)) rfl rfl (by omega)) ?_
    refine wI (n_quo (a := (((S - 4) * (Q - 2)) * (D - 2))) (b := 4) rfl rfl (by decide) (by omega)) ?_
    refine wI (d_assign rfl) ?_
    refine wF ([(zf18 0), (eN S), (ptr b11 0), (zf18 3), (eN ((((S - 4) * (Q - 2)) * (D - 2)) / 4))] ++ (zs zf18 5 12 ++ [(Value.bool false), (eN S), (eN (S - 4)), (ptr b11 2), (eN Q), (eN (Q - 2)), (eN ((S - 4) * (Q - 2))), (ptr b11 0), (eN D), (eN (D - 2)), (eN (((S - 4) * (Q - 2)) * (D - 2))), (eN ((((S - 4) * (Q - 2)) * (D - 2)) / 4))])) ?_
    refine wpL.done ?_
    refine then_n ?_
    refine forget (fun zf19 => ([(zf19 0), (zf19 1), (zf19 2), (zf19 3), (eN ((((S - 4) * (Q - 2)) * (D - 2)) / 4))] ++ (zs zf19 5 24))) (by kernel_rfl) (fun zf19 => ?_)
    refine wpIn_ret ?_
    refine leave0 (v := (eN ((((S - 4) * (Q - 2)) * (D - 2)) / 4))) (res1 Try.results37 rfl) ?_
    exact ⟨congrArg eI (gsec_yes k0 (by omega) (by omega)).symm, oW⟩
   refine plain ?_
   refine wI (d_loadAg (vs := [(eI x), (eI y), (eI z)]) ⟨_, Try.underlying25, rfl⟩ s_ti25 rfl a14 rfl rfl) ?_
   refine wO (d_call (xl := [.tmp 5]) (al := [(Value.agg #[(eI x), (eI y), (eI z)])]) Try.func34 (by kernel_rfl) rfl rfl rfl (cw_is (v' := eN 0) (ref9Check_ok x y z _) (by rw [(show fitsI x y z = true from k0)] <;> rfl))) ?_
   rintro _ w20 ⟨rfl, o21⟩
   replace a14 := a14.step0 o21
   replace oW := oW.tail0 o21
   refine wI (n_neq (a := 0) (b := 0) rfl rfl (by rw [decide_eq_true rfl] <;> rfl)) ?_
   refine wF ([(Value.agg #[(eI x), (eI y), (eI z)]), (eI s), (ptr b11 0), undef, (eN 0), (Value.agg #[(eI x), (eI y), (eI z)]), (eN 0), (Value.bool false)] ++ (us 21)) ?_
   refine wI (d_move rfl) ?_
   refine wpL.onis rfl rfl rfl (nb rfl) rfl (d_move rfl) ?_
   refine wpL.onis rfl rfl rfl (nb rfl) rfl (d_lss (k := .i64) (m := s) (n := 7) rfl rfl (decide_eq_false (by omega))) ?_
   refine wF ([(Value.agg #[(eI x), (eI y), (eI z)]), (eI s), (ptr b11 0), undef, (eN 0), (Value.agg #[(eI x), (eI y), (eI z)]), (eN 0), (Value.bool false), (Value.bool false), (eI s), (Value.bool false)] ++ (us 18)) ?_
   refine wI (d_pick (b := false) (v := (Value.bool false)) rfl rfl) ?_
   refine wI (d_move rfl) ?_
   refine wpL.onis rfl rfl rfl (nb rfl) rfl (d_move rfl) ?_
   refine wF ([(Value.agg #[(eI x), (eI y), (eI z)]), (eI s), (ptr b11 0), undef, (eN 0), (Value.agg #[(eI x), (eI y), (eI z)]), (eN 0), (Value.bool false), (Value.bool false), (eI s), (Value.bool false), (Value.bool false), (Value.bool false), (eI s)] ++ (us 15)) ?_
   refine wpL.onis rfl rfl rfl (nb rfl) rfl (d_fieldAddr (j := 1) Try.underlying25 rfl s_ti3 (by decide) rfl rfl) ?_
   refine wpL.onis rfl rfl rfl (nb rfl) rfl (d_load (v := (eI y)) ⟨_, Try.underlying3, rfl⟩ rfl a14 rfl) ?_
   refine wpL.onis rfl rfl rfl (nb rfl) rfl (d_gtr (k := .i64) (m := s) (n := y) rfl rfl (decide_eq_true (by omega))) ?_
   refine wF ([(Value.agg #[(eI x), (eI y), (eI z)]), (eI s), (ptr b11 0), undef, (eN 0), (Value.agg #[(eI x), (eI y), (eI z)]), (eN 0), (Value.bool false), (Value.bool false), (eI s), (Value.bool false), (Value.bool false), (Value.bool false), (eI s), (ptr b11 1), (eI y), (Value.bool true)] ++ (us 12)) ?_
   refine wI (d_pick (b := false) (v := (Value.bool true)) rfl rfl) ?_
   refine wF ([(Value.agg #[(eI x), (eI y), (eI z)]), (eI s), (ptr b11 0), undef, (eN 0), (Value.agg #[(eI x), (eI y), (eI z)]), (eN 0), (Value.bool false), (Value.bool false), (eI s), (Value.bool false), (Value.bool false), (Value.bool false), (eI s), (ptr b11 1), (eI y), (Value.bool true), (Value.bool true)] ++ (us 11)) ?_
   refine wpL.done ?_
   refine then_n ?_
   refine forget (fun zf22 => ([(zf22 0), (eI s), (ptr b11 0)] ++ (zs zf22 3 14 ++ [(Value.bool true)] ++ (zs zf22 18 11)))) (by kernel_rfl) (fun zf22 => ?_)
   refine cond_t rfl ?_
   refine wpIn_seq ?_
   refine plain ?_
   refine wI (d_assign rfl) ?_
   refine wF ([(zf22 0), (eI s), (ptr b11 0), (zf22 3), (eN 0)] ++ (zs zf22 5 12 ++ [(Value.bool true)] ++ (zs zf22 18 11))) ?_
   refine wpL.done ?_
   refine then_n ?_
   refine wpIn_ret ?_
   refine then_r ?_
   refine leave0 (v := (eN 0)) (res1 Try.results37 rfl) ?_
   exact ⟨congrArg eI (gsec_no (by simp only [k0]; omega)).symm, oW⟩
  refine plain ?_
  refine wI (d_loadAg (vs := [(eI x), (eI y), (eI z)]) ⟨_, Try.underlying25, rfl⟩ s_ti25 rfl a14 rfl rfl) ?_
  refine wO (d_call (xl := [.tmp 5]) (al := [(Value.agg #[(eI x), (eI y), (eI z)])]) Try.func34 (by kernel_rfl) rfl rfl rfl (cw_is (v' := eN 0) (ref9Check_ok x y z _) (by rw [(show fitsI x y z = true from k0)] <;> rfl))) ?_
  rintro _ w23 ⟨rfl, o24⟩
  replace a14 := a14.step0 o24
  replace oW := oW.tail0 o24
  refine wI (n_neq (a := 0) (b := 0) rfl rfl (by rw [decide_eq_true rfl] <;> rfl)) ?_
  refine wF ([(Value.agg #[(eI x), (eI y), (eI z)]), (eI s), (ptr b11 0), undef, (eN 0), (Value.agg #[(eI x), (eI y), (eI z)]), (eN 0), (Value.bool false)] ++ (us 21)) ?_
  refine wI (d_move rfl) ?_
  refine wpL.onis rfl rfl rfl (nb rfl) rfl (d_move rfl) ?_
  refine wpL.onis rfl rfl rfl (nb rfl) rfl (d_lss (k := .i64) (m := s) (n := 7) rfl rfl (decide_eq_true (by omega))) ?_
  refine wF ([(Value.agg #[(eI x), (eI y), (eI z)]), (eI s), (ptr b11 0), undef, (eN 0), (Value.agg #[(eI x), (eI y), (eI z)]), (eN 0), (Value.bool false), (Value.bool false), (eI s), (Value.bool true)] ++ (us 18)) ?_
  refine wI (d_pick (b := false) (v := (Value.bool true)) rfl rfl) ?_
  refine wI (d_move rfl) ?_
  refine wF ([(Value.agg #[(eI x), (eI y), (eI z)]), (eI s), (ptr b11 0), undef, (eN 0), (Value.agg #[(eI x), (eI y), (eI z)]), (eN 0), (Value.bool false), (Value.bool false), (eI s), (Value.bool true), (Value.bool true), (Value.bool true)] ++ (us 16)) ?_
  refine wpL.off rfl rfl rfl (nb rfl) rfl ?_
  refine wpL.off rfl rfl rfl (nb rfl) rfl ?_
  refine wpL.off rfl rfl rfl (nb rfl) rfl ?_
  refine wF ([(Value.agg #[(eI x), (eI y), (eI z)]), (eI s), (ptr b11 0), undef, (eN 0), (Value.agg #[(eI x), (eI y), (eI z)]), (eN 0), (Value.bool false), (Value.bool false), (eI s), (Value.bool true), (Value.bool true), (Value.bool true)] ++ (us 16)) ?_
  refine wpL.off rfl rfl rfl (nb rfl) rfl ?_
  refine wI (d_pick (b := true) (v := (Value.bool true)) rfl rfl) ?_
  refine wF ([(Value.agg #[(eI x), (eI y), (eI z)]), (eI s), (ptr b11 0), undef, (eN 0), (Value.agg #[(eI x), (eI y), (eI z)]), (eN 0), (Value.bool false), (Value.bool false), (eI s), (Value.bool true), (Value.bool true), (Value.bool true), undef, undef, undef, undef, (Value.bool true)] ++ (us 11)) ?_
  refine wpL.done ?_
  refine then_n ?_
  refine forget (fun zf25 => ([(zf25 0), (eI s), (ptr b11 0)] ++ (zs zf25 3 14 ++ [(Value.bool true)] ++ (zs zf25 18 11)))) (by kernel_rfl) (fun zf25 => ?_)
  refine cond_t rfl ?_
  refine wpIn_seq ?_
  refine plain ?_
  refine wI (d_assign rfl) ?_
  refine wF ([(zf25 0), (eI s), (ptr b11 0), (zf25 3), (eN 0)] ++ (zs zf25 5 12 ++ [(Value.bool true)] ++ (zs zf25 18 11))) ?_
  refine wpL.done ?_
  refine then_n ?_
  refine wpIn_ret ?_
  refine then_r ?_
  refine leave0 (v := (eN 0)) (res1 Try.results37 rfl) ?_
  exact ⟨congrArg eI (gsec_no (by simp only [k0]; omega)).symm, oW⟩
 refine plain ?_
 refine wI (d_loadAg (vs := [(eI x), (eI y), (eI z)]) ⟨_, Try.underlying25, rfl⟩ s_ti25 rfl a14 rfl rfl) ?_
 refine wO (d_call (xl := [.tmp 5]) (al := [(Value.agg #[(eI x), (eI y), (eI z)])]) Try.func34 (by kernel_rfl) rfl rfl rfl (cw_is (v' := eN 1) (ref9Check_ok x y z _) (by rw [(show fitsI x y z = false from (Bool.eq_false_iff.2 k0))] <;> rfl))) ?_
 rintro _ w26 ⟨rfl, o27⟩
 replace a14 := a14.step0 o27
 replace oW := oW.tail0 o27
 refine wI (n_neq (a := 1) (b := 0) rfl rfl (by rw [decide_eq_false (by decide)] <;> rfl)) ?_
 refine wF ([(Value.agg #[(eI x), (eI y), (eI z)]), (eI s), (ptr b11 0), undef, (eN 0), (Value.agg #[(eI x), (eI y), (eI z)]), (eN 1), (Value.bool true)] ++ (us 21)) ?_
 refine wI (d_move rfl) ?_
 refine wpL.off rfl rfl rfl (nb rfl) rfl ?_
 refine wF ([(Value.agg #[(eI x), (eI y), (eI z)]), (eI s), (ptr b11 0), undef, (eN 0), (Value.agg #[(eI x), (eI y), (eI z)]), (eN 1), (Value.bool true), (Value.bool true)] ++ (us 20)) ?_
 refine wpL.off rfl rfl rfl (nb rfl) rfl ?_
 refine wI (d_pick (b := true) (v := (Value.bool true)) rfl rfl) ?_
 refine wI (d_move rfl) ?_
 refine wF ([(Value.agg #[(eI x), (eI y), (eI z)]), (eI s), (ptr b11 0), undef, (eN 0), (Value.agg #[(eI x), (eI y), (eI z)]), (eN 1), (Value.bool true), (Value.bool true), undef, undef, (Value.bool true), (Value.bool true)] ++ (us 16)) ?_
 refine wpL.off rfl rfl rfl (nb rfl) rfl ?_
 refine wpL.off rfl rfl rfl (nb rfl) rfl ?_
 refine wpL.off rfl rfl rfl (nb rfl) rfl ?_
 refine wF ([(Value.agg #[(eI x), (eI y), (eI z)]), (eI s), (ptr b11 0), undef, (eN 0), (Value.agg #[(eI x), (eI y), (eI z)]), (eN 1), (Value.bool true), (Value.bool true), undef, undef, (Value.bool true), (Value.bool true)] ++ (us 16)) ?_
 refine wpL.off rfl rfl rfl (nb rfl) rfl ?_
 refine wI (d_pick (b := true) (v := (Value.bool true)) rfl rfl) ?_
 refine wF ([(Value.agg #[(eI x), (eI y), (eI z)]), (eI s), (ptr b11 0), undef, (eN 0), (Value.agg #[(eI x), (eI y), (eI z)]), (eN 1), (Value.bool true), (Value.bool true), undef, undef, (Value.bool true), (Value.bool true), undef, undef, undef, undef, (Value.bool true)] ++ (us 11)) ?_
 refine wpL.done ?_
 refine then_n ?_
 refine forget (fun zf28 => ([(zf28 0), (eI s), (ptr b11 0)] ++ (zs zf28 3 14 ++ [(Value.bool true)] ++ (zs zf28 18 11)))) (by kernel_rfl) (fun zf28 => ?_)
 refine cond_t rfl ?_
 refine wpIn_seq ?_
 refine plain ?_
 refine wI (d_assign rfl) ?_
 refine wF ([(zf28 0), (eI s), (ptr b11 0), (zf28 3), (eN 0)] ++ (zs zf28 5 12 ++ [(Value.bool true)] ++ (zs zf28 18 11))) ?_
 refine wpL.done ?_
 refine then_n ?_
 refine wpIn_ret ?_
 refine then_r ?_
 refine leave0 (v := (eN 0)) (res1 Try.results37 rfl) ?_
 exact ⟨congrArg eI (gsec_no (fun h_ => k0 h_.1)).symm, oW⟩

set_option maxRecDepth 20000 in
set_option maxHeartbeats 1000000 in
theorem gSlots_ok (x y z : Int) (W : World) :
    CW Try.prog 35 #[(Value.agg #[(eI x), (eI y), (eI z)])] W (Rt (RIs (eI (gslot x y z)) W)) := by
 have oW : Only No W W := Only.refl _ _
 refine enter (al := [(Value.agg #[(eI x), (eI y), (eI z)])]) (k := 8) (l := ([(Value.agg #[(eI x), (eI y), (eI z)])] ++ (us 8))) Try.func35 rfl Try.ntmps35 rfl rfl ?_
 refine wpIn_seq ?_
 refine plain ?_
 refine wO (d_box rfl rfl) ?_
 rintro _ w12 ⟨b11, rfl, g13, a14, o15⟩
 have g_oW_b11 : W.heap.size ≤ b11 := Nat.le_trans oW.size g13
 replace oW := oW.tail0 o15
 refine wI (d_assign rfl) ?_
 refine wF ([(Value.agg #[(eI x), (eI y), (eI z)]), (ptr b11 0), (eN 0)] ++ (us 6)) ?_
 refine wpL.done ?_
 refine then_n ?_
 refine wpIn_seq ?_
 refine wpIn_seq ?_
 by_cases k0 : fitsI x y z = true
 ·
  have hf_ := fits_get k0
  obtain ⟨D, rfl⟩ := Int.eq_ofNat_of_zero_le (show 0 ≤ x by omega)
  refine wp_eq (l' := ([(Value.agg #[(eN D), (eI y), (eI z)]), (ptr b11 0), (eN 0)] ++ (us 6))) rfl ?_
  obtain ⟨B, rfl⟩ := Int.eq_ofNat_of_zero_le (show 0 ≤ y by omega)
  refine wp_eq (l' := ([(Value.agg #[(eN D), (eN B), (eI z)]), (ptr b11 0), (eN 0)] ++ (us 6))) rfl ?_
  obtain ⟨Q, rfl⟩ := Int.eq_ofNat_of_zero_le (show 0 ≤ z by omega)
  refine wp_eq (l' := ([(Value.agg #[(eN D), (eN B), (eN Q)]), (ptr b11 0), (eN 0)] ++ (us 6))) rfl ?_
  refine plain ?_
  refine wI (d_loadAg (vs := [(eN D), (eN B), (eN Q)]) ⟨_, Try.underlying25, rfl⟩ s_ti25 rfl a14 rfl rfl) ?_
  refine wO (d_call (xl := [.tmp 3]) (al := [(Value.agg #[(eN D), (eN B), (eN Q)])]) Try.func38 (by kernel_rfl) rfl rfl rfl (cw_is (gfitsI_ok ((D : Nat) : Int) ((B : Nat) : Int) ((Q : Nat) : Int) _) (congrArg Value.bool (show fitsI ((D : Nat) : Int) ((B : Nat) : Int) ((Q : Nat) : Int) = true from k0)))) ?_
  rintro _ w16 ⟨rfl, o17⟩
  replace a14 := a14.step0 o17
  replace oW := oW.tail0 o17
  refine wI (d_not rfl rfl) ?_
  refine wF [(Value.agg #[(eN D), (eN B), (eN Q)]), (ptr b11 0), (eN 0), (Value.agg #[(eN D), (eN B), (eN Q)]), (Value.bool true), (Value.bool false), undef, undef, undef] ?_
  refine wpL.done ?_
  refine then_n ?_
  refine cond_f rfl ?_
  refine wpIn_skip ?_
  refine then_n ?_
  refine wpIn_seq ?_
  refine plain ?_
  refine wI (d_fieldAddr (j := 0) Try.underlying25 rfl s_ti3 (by decide) rfl rfl) ?_
  refine wI (d_load (v := (eN D)) ⟨_, Try.underlying3, rfl⟩ rfl a14 rfl) ?_
  refine wI (n_sub (a := D) (b := 2) rfl rfl (by omega) (by omega)) ?_
  refine wF [(Value.agg #[(eN D), (eN B), (eN Q)]), (ptr b11 0), (eN 0), (Value.agg #[(eN D), (eN B), (eN Q)]), (Value.bool true), (Value.bool false), (ptr b11 0), (eN D), (eN (D - 2))] ?_
  refine wI (d_assign rfl) ?_
  refine wF [(Value.agg #[(eN D), (eN B), (eN Q)]), (ptr b11 0), (eN (D - 2)), (Value.agg #[(eN D), (eN B), (eN Q)]), (Value.bool true), (Value.bool false), (ptr b11 0), (eN D), (eN (D - 2))] ?_
  refine wpL.done ?_
  refine then_n ?_
  refine wpIn_ret ?_
  refine leave0 (v := (eN (D - 2))) (res1 Try.results35 rfl) ?_
  exact ⟨congrArg eI ((if_pos k0).trans (by omega)).symm, oW⟩
 refine plain ?_
 refine wI (d_loadAg (vs := [(eI x), (eI y), (eI z)]) ⟨_, Try.underlying25, rfl⟩ s_ti25 rfl a14 rfl rfl) ?_
 refine wO (d_call (xl := [.tmp 3]) (al := [(Value.agg #[(eI x), (eI y), (eI z)])]) Try.func38 (by kernel_rfl) rfl rfl rfl (cw_is (gfitsI_ok x y z _) (congrArg Value.bool (show fitsI x y z = false from (Bool.eq_false_iff.2 k0))))) ?_
 rintro _ w18 ⟨rfl, o19⟩
 replace a14 := a14.step0 o19
 replace oW := oW.tail0 o19
 refine wI (d_not rfl rfl) ?_
 refine wF [(Value.agg #[(eI x), (eI y), (eI z)]), (ptr b11 0), (eN 0), (Value.agg #[(eI x), (eI y), (eI z)]), (Value.bool false), (Value.bool true), undef, undef, undef] ?_
 refine wpL.done ?_
 refine then_n ?_
 refine cond_t rfl ?_
 refine wpIn_seq ?_
 refine plain ?_
 refine wI (d_assign rfl) ?_
 refine wF [(Value.agg #[(eI x), (eI y), (eI z)]), (ptr b11 0), (eN 0), (Value.agg #[(eI x), (eI y), (eI z)]), (Value.bool false), (Value.bool true), undef, undef, undef] ?_
 refine wpL.done ?_
 refine then_n ?_
 refine wpIn_ret ?_
 refine then_r ?_
 refine leave0 (v := (eN 0)) (res1 Try.results35 rfl) ?_
 exact ⟨congrArg eI (if_neg k0).symm, oW⟩

set_option maxRecDepth 20000 in
set_option maxHeartbeats 1000000 in
theorem ref9Slots_ok (x y z : Int) (W : World) :
    CW Try.prog 36 #[(Value.agg #[(eI x), (eI y), (eI z)])] W (Rt (RIs (eI (gslot x y z)) W)) := by
 have oW : Only No W W := Only.refl _ _
 refine enter (al := [(Value.agg #[(eI x), (eI y), (eI z)])]) (k := 8) (l := ([(Value.agg #[(eI x), (eI y), (eI z)])] ++ (us 8))) Try.func36 rfl Try.ntmps36 rfl rfl ?_
 refine wpIn_seq ?_
 refine plain ?_
 refine wO (d_box rfl rfl) ?_
 rintro _ w12 ⟨b11, rfl, g13, a14, o15⟩
 have g_oW_b11 : W.heap.size ≤ b11 := Nat.le_trans oW.size g13
 replace oW := oW.tail0 o15
 refine wI (d_assign rfl) ?_
 refine wF ([(Value.agg #[(eI x), (eI y), (eI z)]), (ptr b11 0), (eN 0)] ++ (us 6)) ?_
 refine wpL.done ?_
 refine then_n ?_
 refine wpIn_seq ?_
 refine wpIn_seq ?_
 by_cases k0 : fitsI x y z = true
 ·
  have hf_ := fits_get k0
  obtain ⟨D, rfl⟩ := Int.eq_ofNat_of_zero_le (show 0 ≤ x by omega)
  refine wp_eq (l' := ([(Value.agg #[(eN D), (eI y), (eI z)]), (ptr b11 0), (eN 0)] ++ (us 6))) rfl ?_
  obtain ⟨B, rfl⟩ := Int.eq_ofNat_of_zero_le (show 0 ≤ y by omega)
  refine wp_eq (l' := ([(Value.agg #[(eN D), (eN B), (eI z)]), (ptr b11 0), (eN 0)] ++ (us 6))) rfl ?_
  obtain ⟨Q, rfl⟩ := Int.eq_ofNat_of_zero_le (show 0 ≤ z by omega)
  refine wp_eq (l' := ([(Value.agg #[(eN D), (eN B), (eN Q)]), (ptr b11 0), (eN 0)] ++ (us 6))) rfl ?_
  refine plain ?_
  refine wI (d_loadAg (vs := [(eN D), (eN B), (eN Q)]) ⟨_, Try.underlying25, rfl⟩ s_ti25 rfl a14 rfl rfl) ?_
  refine wO (d_call (xl := [.tmp 3]) (al := [(Value.agg #[(eN D), (eN B), (eN Q)])]) Try.func34 (by kernel_rfl) rfl rfl rfl (cw_is (v' := eN 0) (ref9Check_ok ((D : Nat) : Int) ((B : Nat) : Int) ((Q : Nat) : Int) _) (by rw [(show fitsI ((D : Nat) : Int) ((B : Nat) : Int) ((Q : Nat) : Int) = true from k0)] <;> rfl))) ?_
  rintro _ w16 ⟨rfl, o17⟩
  replace a14 := a14.step0 o17
  replace oW := oW.tail0 o17
  refine wI (n_neq (a := 0) (b := 0) rfl rfl (by rw [decide_eq_true rfl] <;> rfl)) ?_
  refine wF [(Value.agg #[(eN D), (eN B), (eN Q)]), (ptr b11 0), (eN 0), (Value.agg #[(eN D), (eN B), (eN Q)]), (eN 0), (Value.bool false), undef, undef, undef] ?_
  refine wpL.done ?_
  refine then_n ?_
  refine cond_f rfl ?_
  refine wpIn_skip ?_
  refine then_n ?_
  refine wpIn_seq ?_
  refine plain ?_
  refine wI (d_fieldAddr (j := 0) Try.underlying25 rfl s_ti3 (by decide) rfl rfl) ?_
  refine wI (d_load (v := (eN D)) ⟨_, Try.underlying3, rfl⟩ rfl a14 rfl) ?_
  refine wI (n_sub (a := D) (b := 2) rfl rfl (by omega) (by omega)) ?_
  refine wF [(Value.agg #[(eN D), (eN B), (eN Q)]), (ptr b11 0), (eN 0), (Value.agg #[(eN D), (eN B), (eN Q)]), (eN 0), (Value.bool false), (ptr b11 0), (eN D), (eN (D - 2))] ?_
  refine wI (d_assign rfl) ?_
  refine wF [(Value.agg #[(eN D), (eN B), (eN Q)]), (ptr b11 0), (eN (D - 2)), (Value.agg #[(eN D), (eN B), (eN Q)]), (eN 0), (Value.bool false), (ptr b11 0), (eN D), (eN (D - 2))] ?_
  refine wpL.done ?_
  refine then_n ?_
  refine wpIn_ret ?_
  refine leave0 (v := (eN (D - 2))) (res1 Try.results36 rfl) ?_
  exact ⟨congrArg eI ((if_pos k0).trans (by omega)).symm, oW⟩
 refine plain ?_
 refine wI (d_loadAg (vs := [(eI x), (eI y), (eI z)]) ⟨_, Try.underlying25, rfl⟩ s_ti25 rfl a14 rfl rfl) ?_
 refine wO (d_call (xl := [.tmp 3]) (al := [(Value.agg #[(eI x), (eI y), (eI z)])]) Try.func34 (by kernel_rfl) rfl rfl rfl (cw_is (v' := eN 1) (ref9Check_ok x y z _) (by rw [(show fitsI x y z = false from (Bool.eq_false_iff.2 k0))] <;> rfl))) ?_
 rintro _ w18 ⟨rfl, o19⟩
 replace a14 := a14.step0 o19
 replace oW := oW.tail0 o19
 refine wI (n_neq (a := 1) (b := 0) rfl rfl (by rw [decide_eq_false (by decide)] <;> rfl)) ?_
 refine wF [(Value.agg #[(eI x), (eI y), (eI z)]), (ptr b11 0), (eN 0), (Value.agg #[(eI x), (eI y), (eI z)]), (eN 1), (Value.bool true), undef, undef, undef] ?_
 refine wpL.done ?_
 refine then_n ?_
 refine cond_t rfl ?_
 refine wpIn_seq ?_
 refine plain ?_
 refine wI (d_assign rfl) ?_
 refine wF [(Value.agg #[(eI x), (eI y), (eI z)]), (ptr b11 0), (eN 0), (Value.agg #[(eI x), (eI y), (eI z)]), (eN 1), (Value.bool true), undef, undef, undef] ?_
 refine wpL.done ?_
 refine then_n ?_
 refine wpIn_ret ?_
 refine then_r ?_
 refine leave0 (v := (eN 0)) (res1 Try.results36 rfl) ?_
 exact ⟨congrArg eI (if_neg k0).symm, oW⟩

set_option maxRecDepth 20000 in
set_option maxHeartbeats 1000000 in
theorem law9Known_ok (W : World) :
    CW Try.prog 15 #[] W (Rt (RIs (.bool true) W)) := by
 have oW : Only No W W := Only.refl _ _
 refine enter (al := []) (k := 16) (l := (us 16)) Try.func15 rfl Try.ntmps15 rfl rfl ?_
 refine wpIn_seq ?_
 refine plain ?_
 refine wI (d_assign rfl) ?_
 refine wF ([(Value.bool false)] ++ (us 15)) ?_
 refine wpL.done ?_
 refine then_n ?_
 refine wpIn_seq ?_
 refine plain ?_
 refine wI (d_buildS (pl := [(0, 1), (1, 1), (2, 1)]) (zs := [(eN 0), (eN 0), (eN 0)]) (cs := [(eN 6), (eN 8), (eN 4)]) Try.underlying25 s_ti25 ⟨_, _, _, _, rfl, s_ti3, ⟨_, _, _, _, rfl, s_ti3, ⟨_, _, _, _, rfl, s_ti3, rfl⟩⟩⟩ rfl (parts_cons (vs := [(eN 6)]) (cells_of (v := (eN 6)) rfl rfl) (parts_cons (vs := [(eN 8)]) (cells_of (v := (eN 8)) rfl rfl) (parts_cons (vs := [(eN 4)]) (cells_of (v := (eN 4)) rfl rfl) parts_nil))) rfl) ?_
 refine wO (d_alloc s_ti25 rfl) ?_
 rintro _ w12 ⟨b11, rfl, g13, a14, o15⟩
 have g_oW_b11 : W.heap.size ≤ b11 := Nat.le_trans oW.size g13
 replace oW := oW.tail0 o15
 refine wO (d_storeAg (cs' := [(eN 6), (eN 8), (eN 4)]) s_ti25 rfl rfl rfl (oc_cons rfl (oc_cons rfl (oc_cons rfl oc_nil))) a14 (by decide) rfl) ?_
 rintro _ w16 ⟨a17, o18⟩
 replace oW := oW.tailb o18 g_oW_b11
 refine wF ([(Value.bool false), (ptr b11 0), (Value.agg #[(eN 6), (eN 8), (eN 4)])] ++ (us 13)) ?_
 refine wpL.done ?_
 refine then_n ?_
 refine wpIn_seq ?_
 refine plain ?_
 refine wI (d_loadAg (vs := [(eN 6), (eN 8), (eN 4)]) ⟨_, Try.underlying25, rfl⟩ s_ti25 rfl a17 rfl rfl) ?_
 refine wO (d_call (xl := [.tmp 3]) (al := [(Value.agg #[(eN 6), (eN 8), (eN 4)])]) Try.func33 (by kernel_rfl) rfl rfl rfl (cw_is (v' := eN 0) (gCheck_ok 6 8 4 _) (by rw [(show fitsI 6 8 4 = true from (fits_is (by omega)).symm)] <;> rfl))) ?_
 rintro _ w19 ⟨rfl, o20⟩
 replace a17 := a17.step0 o20
 replace oW := oW.tail0 o20
 refine wI (n_eql (a := 0) (b := 0) rfl rfl (decide_eq_true rfl)) ?_
 refine wF ([(Value.bool false), (ptr b11 0), (Value.agg #[(eN 6), (eN 8), (eN 4)]), (Value.agg #[(eN 6), (eN 8), (eN 4)]), (eN 0), (Value.bool true)] ++ (us 10)) ?_
 refine wI (d_move rfl) ?_
 refine wpL.onis rfl rfl rfl (nb rfl) rfl (d_loadAg (vs := [(eN 6), (eN 8), (eN 4)]) ⟨_, Try.underlying25, rfl⟩ s_ti25 rfl a17 rfl rfl) ?_
 refine wpL.on rfl rfl rfl (nb rfl) rfl (d_call (xl := [.tmp 7, .const (.int .i64 8)]) (al := [(Value.agg #[(eN 6), (eN 8), (eN 4)]), (eN 8)]) Try.func17 (by kernel_rfl) rfl rfl rfl (gSectors_ok 6 8 4 8 _)) ?_
 rintro _ w21 ⟨rfl, o22⟩
 replace a17 := a17.step0 o22
 replace oW := oW.tail0 o22
 refine wF ([(Value.bool false), (ptr b11 0), (Value.agg #[(eN 6), (eN 8), (eN 4)]), (Value.agg #[(eN 6), (eN 8), (eN 4)]), (eN 0), (Value.bool true), (Value.bool true), (Value.agg #[(eN 6), (eN 8), (eN 4)]), (eI (gsec 6 8 4 8))] ++ (us 7)) ?_
 refine wpL.onis rfl rfl rfl (nb rfl) rfl (d_eql (k := .i64) (m := gsec 6 8 4 8) (n := 8) rfl rfl (decide_eq_true (by decide))) ?_
 refine wI (d_pick (b := true) (v := (Value.bool true)) rfl rfl) ?_
 refine wI (d_move rfl) ?_
 refine wF [(Value.bool false), (ptr b11 0), (Value.agg #[(eN 6), (eN 8), (eN 4)]), (Value.agg #[(eN 6), (eN 8), (eN 4)]), (eN 0), (Value.bool true), (Value.bool true), (Value.agg #[(eN 6), (eN 8), (eN 4)]), (eI (gsec 6 8 4 8)), (Value.bool true), (Value.bool true), (Value.bool true), undef, undef, undef, undef] ?_
 refine wpL.onis rfl rfl rfl (nb rfl) rfl (d_loadAg (vs := [(eN 6), (eN 8), (eN 4)]) ⟨_, Try.underlying25, rfl⟩ s_ti25 rfl a17 rfl rfl) ?_
 refine wpL.on rfl rfl rfl (nb rfl) rfl (d_call (xl := [.tmp 12]) (al := [(Value.agg #[(eN 6), (eN 8), (eN 4)])]) Try.func35 (by kernel_rfl) rfl rfl rfl (cw_is (v' := eN (6 - 2)) (gSlots_ok 6 8 4 _) (congrArg eI ((if_pos (show fitsI 6 8 4 = true from (fits_is (by omega)).symm)).trans (by omega))))) ?_
 rintro _ w23 ⟨rfl, o24⟩
 replace a17 := a17.step0 o24
 replace oW := oW.tail0 o24
 refine wpL.onis rfl rfl rfl (nb rfl) rfl (n_eql (a := (6 - 2)) (b := 4) rfl rfl rfl) ?_
 refine wF [(Value.bool false), (ptr b11 0), (Value.agg #[(eN 6), (eN 8), (eN 4)]), (Value.agg #[(eN 6), (eN 8), (eN 4)]), (eN 0), (Value.bool true), (Value.bool true), (Value.agg #[(eN 6), (eN 8), (eN 4)]), (eI (gsec 6 8 4 8)), (Value.bool true), (Value.bool true), (Value.bool true), (Value.agg #[(eN 6), (eN 8), (eN 4)]), (eN (6 - 2)), (Value.bool (decide ((6 - 2) = 4))), undef] ?_
 refine wI (d_pick (b := true) (v := (Value.bool (decide ((6 - 2) = 4)))) rfl rfl) ?_
 refine wI (d_assign rfl) ?_
 refine wF [(Value.bool (decide ((6 - 2) = 4))), (ptr b11 0), (Value.agg #[(eN 6), (eN 8), (eN 4)]), (Value.agg #[(eN 6), (eN 8), (eN 4)]), (eN 0), (Value.bool true), (Value.bool true), (Value.agg #[(eN 6), (eN 8), (eN 4)]), (eI (gsec 6 8 4 8)), (Value.bool true), (Value.bool true), (Value.bool true), (Value.agg #[(eN 6), (eN 8), (eN 4)]), (eN (6 - 2)), (Value.bool (decide ((6 - 2) = 4))), (Value.bool (decide ((6 - 2) = 4)))] ?_
 refine wpL.done ?_
 refine then_n ?_
 refine wpIn_ret ?_
 refine leave0 (v := (Value.bool (decide ((6 - 2) = 4)))) (res1 Try.results15 rfl) ?_
 exact ⟨rfl, oW⟩

set_option maxRecDepth 20000 in
set_option maxHeartbeats 1000000 in
theorem law9Within_ok (a : Int) (m : Nat) (W : World) (hm : 0 < m) (hm2 : m ≤ 1000000) :
    CW Try.prog 16 #[(eI a), (eN m)] W (Rt (RIs (eN (a % (m : Int)).toNat) W)) := by
 have oW : Only No W W := Only.refl _ _
 refine enter (al := [(eI a), (eN m)]) (k := 13) (l := ([(eI a), (eN m)] ++ (us 13))) Try.func16 rfl Try.ntmps16 rfl rfl ?_
 refine wpIn_seq ?_
 refine plain ?_
 refine wI (d_assign rfl) ?_
 refine wF ([(eI a), (eN m), undef, undef, (eN 0)] ++ (us 10)) ?_
 refine wpL.done ?_
 refine then_n ?_
 refine wpIn_seq ?_
 refine plain ?_
 refine wI (d_move rfl) ?_
 refine wI (d_move rfl) ?_
 refine wI (d_rem (k := .i64) (m := a) (n := ((m : Nat) : Int)) rfl rfl (by omega) (r := Int.tmod a (m : Int)) rfl) ?_
 refine wF ([(eI a), (eN m), undef, undef, (eN 0), undef, (eI a), (eN m), (eI (Int.tmod a (m : Int)))] ++ (us 6)) ?_
 refine wI (d_assign rfl) ?_
 refine wF ([(eI a), (eN m), undef, undef, (eN 0), (eI (Int.tmod a (m : Int))), (eI a), (eN m), (eI (Int.tmod a (m : Int)))] ++ (us 6)) ?_
 refine wpL.done ?_
 refine then_n ?_
 refine wpIn_seq ?_
 refine wpIn_seq ?_
 refine plain ?_
 refine wI (d_move rfl) ?_
 refine wI (d_lss (k := .i64) (m := Int.tmod a (m : Int)) (n := 0) rfl rfl rfl) ?_
 refine wF [(eI a), (eN m), undef, undef, (eN 0), (eI (Int.tmod a (m : Int))), (eI a), (eN m), (eI (Int.tmod a (m : Int))), (eI (Int.tmod a (m : Int))), (Value.bool (decide (Int.tmod a (m : Int) < 0))), undef, undef, undef, undef] ?_
 refine wpL.done ?_
 refine then_n ?_
 refine cond_if rfl (fun k1 => ?_) (fun k1 => ?_)
 ·
  refine plain ?_
  refine wI (d_move rfl) ?_
  refine wI (d_move rfl) ?_
  refine wI (d_add (k := .i64) (m := Int.tmod a (m : Int)) (n := ((m : Nat) : Int)) rfl rfl (r := (((a % (m : Int)).toNat : Nat) : Int)) (tmm_neg hm hm2 k1)) ?_
  refine wF [(eI a), (eN m), undef, undef, (eN 0), (eI (Int.tmod a (m : Int))), (eI a), (eN m), (eI (Int.tmod a (m : Int))), (eI (Int.tmod a (m : Int))), (Value.bool (decide (Int.tmod a (m : Int) < 0))), (eI (Int.tmod a (m : Int))), (eN m), (eN ((a % (m : Int)).toNat)), undef] ?_
  refine wI (d_assign rfl) ?_
  refine wF [(eI a), (eN m), undef, undef, (eN 0), (eN ((a % (m : Int)).toNat)), (eI a), (eN m), (eI (Int.tmod a (m : Int))), (eI (Int.tmod a (m : Int))), (Value.bool (decide (Int.tmod a (m : Int) < 0))), (eI (Int.tmod a (m : Int))), (eN m), (eN ((a % (m : Int)).toNat)), undef] ?_
  refine wpL.done ?_
  refine then_n ?_
  refine wpIn_seq ?_
  refine plain ?_
  refine wI (d_move rfl) ?_
  refine wI (d_assign rfl) ?_
  refine wF [(eI a), (eN m), undef, undef, (eN ((a % (m : Int)).toNat)), (eN ((a % (m : Int)).toNat)), (eI a), (eN m), (eI (Int.tmod a (m : Int))), (eI (Int.tmod a (m : Int))), (Value.bool (decide (Int.tmod a (m : Int) < 0))), (eI (Int.tmod a (m : Int))), (eN m), (eN ((a % (m : Int)).toNat)), (eN ((a % (m : Int)).toNat))] ?_
  refine wpL.done ?_
  refine then_n ?_
  refine wpIn_ret ?_
  refine leave0 (v := (eN ((a % (m : Int)).toNat))) (res1 Try.results16 rfl) ?_
  exact ⟨rfl, oW⟩
 refine wp_eq (l' := [(eI a), (eN m), undef, undef, (eN 0), (eN ((a % (m : Int)).toNat)), (eI a), (eN m), (eN ((a % (m : Int)).toNat)), (eN ((a % (m : Int)).toNat)), (Value.bool (decide (Int.tmod a (m : Int) < 0))), undef, undef, undef, undef]) (Eq.trans (Eq.trans (show ([(eI a), (eN m), undef, undef, (eN 0), (eI (Int.tmod a (m : Int))), (eI a), (eN m), (eI (Int.tmod a (m : Int))), (eI (Int.tmod a (m : Int))), (Value.bool (decide (Int.tmod a (m : Int) < 0))), undef, undef, undef, undef] : List Value) = [(eI a), (eN m), undef, undef, (eN 0), (eN ((a % (m : Int)).toNat)), (eI a), (eN m), (eI (Int.tmod a (m : Int))), (eI (Int.tmod a (m : Int))), (Value.bool (decide (Int.tmod a (m : Int) < 0))), undef, undef, undef, undef] from reslot [(eI a), (eN m), undef, undef, (eN 0), (eI (Int.tmod a (m : Int))), (eI a), (eN m), (eI (Int.tmod a (m : Int))), (eI (Int.tmod a (m : Int))), (Value.bool (decide (Int.tmod a (m : Int) < 0))), undef, undef, undef, undef] 5 (tmm_pos hm k1)) (show ([(eI a), (eN m), undef, undef, (eN 0), (eN ((a % (m : Int)).toNat)), (eI a), (eN m), (eI (Int.tmod a (m : Int))), (eI (Int.tmod a (m : Int))), (Value.bool (decide (Int.tmod a (m : Int) < 0))), undef, undef, undef, undef] : List Value) = [(eI a), (eN m), undef, undef, (eN 0), (eN ((a % (m : Int)).toNat)), (eI a), (eN m), (eN ((a % (m : Int)).toNat)), (eI (Int.tmod a (m : Int))), (Value.bool (decide (Int.tmod a (m : Int) < 0))), undef, undef, undef, undef] from reslot [(eI a), (eN m), undef, undef, (eN 0), (eN ((a % (m : Int)).toNat)), (eI a), (eN m), (eI (Int.tmod a (m : Int))), (eI (Int.tmod a (m : Int))), (Value.bool (decide (Int.tmod a (m : Int) < 0))), undef, undef, undef, undef] 8 (tmm_pos hm k1))) (show ([(eI a), (eN m), undef, undef, (eN 0), (eN ((a % (m : Int)).toNat)), (eI a), (eN m), (eN ((a % (m : Int)).toNat)), (eI (Int.tmod a (m : Int))), (Value.bool (decide (Int.tmod a (m : Int) < 0))), undef, undef, undef, undef] : List Value) = [(eI a), (eN m), undef, undef, (eN 0), (eN ((a % (m : Int)).toNat)), (eI a), (eN m), (eN ((a % (m : Int)).toNat)), (eN ((a % (m : Int)).toNat)), (Value.bool (decide (Int.tmod a (m : Int) < 0))), undef, undef, undef, undef] from reslot [(eI a), (eN m), undef, undef, (eN 0), (eN ((a % (m : Int)).toNat)), (eI a), (eN m), (eN ((a % (m : Int)).toNat)), (eI (Int.tmod a (m : Int))), (Value.bool (decide (Int.tmod a (m : Int) < 0))), undef, undef, undef, undef] 9 (tmm_pos hm k1))) ?_
 refine wpIn_skip ?_
 refine then_n ?_
 refine wpIn_seq ?_
 refine plain ?_
 refine wI (d_move rfl) ?_
 refine wI (d_assign rfl) ?_
 refine wF [(eI a), (eN m), undef, undef, (eN ((a % (m : Int)).toNat)), (eN ((a % (m : Int)).toNat)), (eI a), (eN m), (eN ((a % (m : Int)).toNat)), (eN ((a % (m : Int)).toNat)), (Value.bool (decide (Int.tmod a (m : Int) < 0))), undef, undef, undef, (eN ((a % (m : Int)).toNat))] ?_
 refine wpL.done ?_
 refine then_n ?_
 refine wpIn_ret ?_
 refine leave0 (v := (eN ((a % (m : Int)).toNat))) (res1 Try.results16 rfl) ?_
 exact ⟨rfl, oW⟩

end Go.Proofs.YtnlbekdjepkhcaaF
